import Derived.Test.YtibfkkjkahpobaaGreatFt15
import Derived.Test.YtibfkkjkahpobaaGreatFt17
import Derived.Test.YtibfkkjkahpobaaGreatFt16
import Derived.Test.YtibfkkjkahpobaaGreatFt27
import Derived.Test.YtibfkkjkahpobaaGreatFt25
import Derived.Test.YtibfkkjkahpobaaGreatFt26
import Derived.Test.YtibfkkjkahpobaaGreatFt28
import Derived.Test.YtibfkkjkahpobaaGreatFt23
import Derived.ChangeKeysEq
import Derived.Deep.MidRow
set_option linter.unusedVariables false
set_option linter.unusedSimpArgs false
set_option maxHeartbeats 8000000
set_option maxRecDepth 100000
open Go.RowKit Go.Proofs.YtibfkkjkahpobaaGreatW.PrintWords Go.Proofs.YtibfkkjkahpobaaGreatW.PrintLast Go.Proofs.YtibfkkjkahpobaaGreatW.PrintMore
namespace Go.Proofs.YtibfkkjkahpobaaGreat.PDag
section
attribute [local go_sem] max2_int min2_int max_two min_two max_three min_three max_four min_four
mutual
def dag_Least.l0 : Nat → List Int → Int → List (S24) → Int → Int → Int → Int → Int → Int → Int → ByteArray → Option (Int)
  | 0, _, _, _, _, _, _, _, _, _, _, _ => none
  | k + 1, x2, x7, x15, x16, x17, x314a, x314b, x314c, x314d, x314e, x314f => if x17 < x16 then (if 0 ≤ x17 then (if x17 < (x15.length : Int) then (if x17 < (x2.length : Int) then ((dag_reads.f k x314a x314b x314c x314d x314e x314f ((J24 x15 x17).f0) ((J24 x15 x17).f1) ((J24 x15 x17).f2) ((J24 x15 x17).f3) ((J24 x15 x17).f4) ((J24 x15 x17).f5)).bind fun t317 => (if t317 = true then ((isa_Late.f k ((J24 x15 x17).f0)).bind fun t318 => (dag_Least.j1 k x2 (mx x7 (wrap64 ((rd x2 x17) + t318))) (rd x2 x17) x15 x16 x17 x314a x314b x314c x314d x314e x314f ((J24 x15 x17).f0) ((J24 x15 x17).f1) ((J24 x15 x17).f2) ((J24 x15 x17).f3) ((J24 x15 x17).f4) ((J24 x15 x17).f5))) else (dag_Least.j1 k x2 x7 (rd x2 x17) x15 x16 x17 x314a x314b x314c x314d x314e x314f ((J24 x15 x17).f0) ((J24 x15 x17).f1) ((J24 x15 x17).f2) ((J24 x15 x17).f3) ((J24 x15 x17).f4) ((J24 x15 x17).f5)))) else (none)) else (none)) else (none)) else (some x7)
def dag_Least.j1 : Nat → List Int → Int → Int → List (S24) → Int → Int → Int → Int → Int → Int → Int → ByteArray → Int → Int → Int → Int → Int → ByteArray → Option (Int)
  | 0, _, _, _, _, _, _, _, _, _, _, _, _, _, _, _, _, _, _ => none
  | k + 1, x2, x7, x10, x15, x16, x17, x314a, x314b, x314c, x314d, x314e, x314f, x316a, x316b, x316c, x316d, x316e, x316f => if x314a = 33 then (dag_Least.j2 k x2 x7 x10 x15 x16 x17 true x314a x314b x314c x314d x314e x314f x316a x316b x316c x316d x316e x316f) else ((isa_Effect.f k x314a).bind fun t319 => (if t319 = true then ((isa_Effect.f k x316a).bind fun t320 => (dag_Least.j2 k x2 x7 x10 x15 x16 x17 t320 x314a x314b x314c x314d x314e x314f x316a x316b x316c x316d x316e x316f)) else (dag_Least.j2 k x2 x7 x10 x15 x16 x17 false x314a x314b x314c x314d x314e x314f x316a x316b x316c x316d x316e x316f)))
def dag_Least.j2 : Nat → List Int → Int → Int → List (S24) → Int → Int → Bool → Int → Int → Int → Int → Int → ByteArray → Int → Int → Int → Int → Int → ByteArray → Option (Int)
  | 0, _, _, _, _, _, _, _, _, _, _, _, _, _, _, _, _, _, _, _ => none
  | k + 1, x2, x7, x10, x15, x16, x17, x48, x314a, x314b, x314c, x314d, x314e, x314f, x316a, x316b, x316c, x316d, x316e, x316f => if x48 = true then (dag_Least.j3 k x2 (mx x7 (wrap64 (x10 + 1))) x10 x15 x16 x17 x314a x314b x314c x314d x314e x314f x316a x316b x316c x316d x316e x316f) else (dag_Least.j3 k x2 x7 x10 x15 x16 x17 x314a x314b x314c x314d x314e x314f x316a x316b x316c x316d x316e x316f)
def dag_Least.j3 : Nat → List Int → Int → Int → List (S24) → Int → Int → Int → Int → Int → Int → Int → ByteArray → Int → Int → Int → Int → Int → ByteArray → Option (Int)
  | 0, _, _, _, _, _, _, _, _, _, _, _, _, _, _, _, _, _, _ => none
  | k + 1, x2, x7, x10, x15, x16, x17, x314a, x314b, x314c, x314d, x314e, x314f, x316a, x316b, x316c, x316d, x316e, x316f => if x314a = 33 then (dag_Least.l0 k x2 x7 x15 x16 (wrap64 (x17 + 1)) x314a x314b x314c x314d x314e x314f) else ((isa_Late.f k x316a).bind fun t321 => (dag_Least.l0 k x2 (mx (mx x7 (wrap64 (x10 - 2))) (wrap64 ((wrap64 ((wrap64 (x10 + t321)) - 2)) - 1))) x15 x16 (wrap64 (x17 + 1)) x314a x314b x314c x314d x314e x314f))
end
def dag_Least.f (k : Nat) (l0 : List (S24)) (a1_0 : Int) (a1_1 : Int) (a1_2 : Int) (a1_3 : Int) (a1_4 : Int) (a1_5 : ByteArray) (l2 : List Int) : Option (Int) := if a1_0 = 0 then (some 0) else (dag_Least.l0 k l2 0 l0 (l0.length : Int) 0 a1_0 a1_1 a1_2 a1_3 a1_4 a1_5)
theorem dag_Least.calls (k : Nat) (A0 : Option Addr) (c0 : Nat) (l0 : List (S24)) (a1_0 : Int) (a1_1 : Int) (a1_2 : Int) (a1_3 : Int) (a1_4 : Int) (a1_5 : ByteArray) (A2 : Option Addr) (c2 : Nat) (l2 : List Int) (r : Int) (w : World) (hr0 : Kd.C k24 w A0 l0.length l0) (hc0 : l0.length ≤ c0) (hr2 : Kd.C (Kd.int .i64) w A2 l2.length l2) (hc2 : l2.length ≤ c2) (h : dag_Least.f k l0 a1_0 a1_1 a1_2 a1_3 a1_4 a1_5 l2 = some r) :
    Calls Tryz.prog 96 #[.slice A0 l0.length c0, .agg #[.int .i64 a1_0, .int .i64 a1_1, .int .i64 a1_2, .int .i64 a1_3, .int .i64 a1_4, .string a1_5], .slice A2 l2.length c2] w fun e w' => e = .returned (.int .i64 r) ∧ Below w.heap.size w w' := by
 have hu24 := Tryz.underlying24; have HR0 := aM_ hr0; have HC0 := aM_ hc0; clear hr0 hc0; have HR2 := aM_ hr2; have HC2 := aM_ hc2; clear hr2 hc2; have HB := aM_ (Below.refl w.heap.size w); have H : (if a1_0 = 0 then (some 0) else (dag_Least.l0 k l2 0 l0 (l0.length : Int) 0 a1_0 a1_1 a1_2 a1_3 a1_4 a1_5)) = some r := h; clear h
 by_cases c4 : a1_0 = 0
 ·rw [if_pos c4] at H; have c4b0 := bH_ c4; have c4b1 := bF_ c4; clear c4; obtain rfl := oI_ H; go_enter Tryz.func96, Tryz.ntmps96
  go_wp2_with (first | ((with_reducible refine gate_dst (N := 4) rfl ?_); refine bX_ (N := 4) (cs := #[.int .i64 a1_0, .int .i64 a1_1, .int .i64 a1_2, .int .i64 a1_3, .int .i64 a1_4, .string a1_5]) (t := 24) ?_; intro gb313 hg w5 hbox hb; replace BK313 := aM_ (hbox); replace GW313 := aM_ (gE_ hg (bl_ HB)); replace GE313 := aM_ (gE_ hg (bl_ HB)); replace HB := aM_ (bT_ (bl_ HB) hb); clear hb hbox hg; obtain ⟨hcz6_0, hcz6_1, hcz6_2, hcz6_3, hcz6_4, hcz6_5⟩ := cl6_ BK313.out; obtain ⟨hfz6_0, hfz6_1, hfz6_2, hfz6_3, hfz6_4, hfz6_5⟩ := fz6_ BK313.out))
  go_ret; exact ⟨eR_, bs_ HB GE313⟩
 rw [if_neg c4] at H; have c4b0 := bE_ c4; have c4b1 := bG_ c4; replace H := aM_ H; go_enter Tryz.func96, Tryz.ntmps96
 go_wp2_with (first | ((with_reducible refine gate_dst (N := 4) rfl ?_); refine bX_ (N := 4) (cs := #[.int .i64 a1_0, .int .i64 a1_1, .int .i64 a1_2, .int .i64 a1_3, .int .i64 a1_4, .string a1_5]) (t := 24) ?_; intro gb313 hg w7 hbox hb; replace BK313 := aM_ (hbox); replace GW313 := aM_ (gE_ hg (bl_ HB)); replace GE313 := aM_ (gE_ hg (bl_ HB)); replace HB := aM_ (bT_ (bl_ HB) hb); clear hb hbox hg; obtain ⟨hcz8_0, hcz8_1, hcz8_2, hcz8_3, hcz8_4, hcz8_5⟩ := cl6_ BK313.out; obtain ⟨hfz8_0, hfz8_1, hfz8_2, hfz8_3, hfz8_4, hfz8_5⟩ := fz6_ BK313.out))
 go_loopg [7, 17] k (fun kq v7 v17 w' => ∃ (x7_1 : Int) (x17_1 : Int), v7 = .int .i64 x7_1 ∧ v17 = .int .i64 x17_1 ∧ As_ (dag_Least.l0 kq l2 x7_1 l0 (l0.length : Int) x17_1 a1_0 a1_1 a1_2 a1_3 a1_4 a1_5 = some r) ∧ As_ (kq ≤ k) ∧ As_ (w'.heap[gb313]? = some (.cells #[.int .i64 a1_0, .int .i64 a1_1, .int .i64 a1_2, .int .i64 a1_3, .int .i64 a1_4, .string a1_5] 24 (0, 0))) ∧ As_ (Below w.heap.size w w'))
 case atStart => exact ⟨(0), (0), eQ_, eQ_, H, ⟨Nat.le_refl _⟩, ⟨rB_ BK313⟩, ⟨bs_ HB GE313⟩⟩
 case round =>
  clear H; obtain ⟨x7_1, x17_1, rfl, rfl, HA, HK1, BK313, HB⟩ := hrel
  cases gk with
  | zero => exact absurd HA.out (by simp [dag_Least.l0])
  | succ k1 =>
   have H := HA.out; clear HA; simp only [dag_Least.l0] at H
   by_cases c9 : x17_1 < (l0.length : Int)
   ·rw [if_pos c9] at H; have c9b0 := dE_ c9; clear c9
    by_cases c10 : 0 ≤ x17_1
    ·rw [if_pos c10] at H; have c10b0 := dE_ c10; clear c10
     by_cases c11 : x17_1 < (l0.length : Int)
     ·rw [if_pos c11] at H; have c11b0 := dE_ c11; clear c11
      by_cases c12 : x17_1 < (l2.length : Int)
      ·rw [if_pos c12] at H; have c12b0 := dE_ c12; clear c12; obtain ⟨t317, A13, H⟩ := oB_ H; have HC14 := aM_ H; clear H; have p314 : 0 ≤ (x17_1 : Int) := oD_; have q314 : x17_1 < (l0.length : Int) := oD_; obtain ⟨ad314, e314, hx314_0, hx314_1, hx314_2, hx314_3, hx314_4, hx314_5⟩ := at_T24 HR0.out x17_1 p314 q314
       cases e314
       replace hx314_0 := hC_ HB hx314_0; replace hx314_1 := hC_ HB hx314_1; replace hx314_2 := hC_ HB hx314_2; replace hx314_3 := hC_ HB hx314_3; replace hx314_4 := hC_ HB hx314_4; replace hx314_5 := hC_ HB hx314_5; replace p314 := eq_true p314; replace q314 := eq_true q314
       go_upto_if 28 with (first | ((with_reducible refine gate_dst (N := 9) rfl ?_); refine bX_ (N := 9) (cs := #[.int .i64 0, .int .i64 0, .int .i64 0, .int .i64 0, .int .i64 0, .string (⟨#[]⟩ : ByteArray)]) (t := 24) ?_; intro gb315 hg w15 hbox hb; replace BK315 := aM_ (hbox); replace GW315 := aM_ (gE_ hg (bs_ HB GE313)); replace GE315 := aM_ (gE_ hg (bs_ HB GE313)); replace HB := aM_ (bT_ (bs_ HB GE313) hb); replace NB313_315 := aM_ ((by rw [hg]; exact Nat.ne_of_lt (blk_lt (g := gb313) (o := .cells #[.int .i64 a1_0, .int .i64 a1_1, .int .i64 a1_2, .int .i64 a1_3, .int .i64 a1_4, .string a1_5] 24 (0, 0)) (rB_ BK313)) : gb313 ≠ gb315)); replace NB315_313 := aM_ ((by rw [hg]; exact Nat.ne_of_gt (blk_lt (g := gb313) (o := .cells #[.int .i64 a1_0, .int .i64 a1_1, .int .i64 a1_2, .int .i64 a1_3, .int .i64 a1_4, .string a1_5] 24 (0, 0)) (rB_ BK313)) : gb315 ≠ gb313)); replace BK313 := aM_ (kB_ (rB_ BK313) hb); clear hb hbox hg; have hnb16 := NB315_313.out; have hnc16 := NB313_315.out; obtain ⟨hcz17_0, hcz17_1, hcz17_2, hcz17_3, hcz17_4, hcz17_5⟩ := cl6_ BK315.out; obtain ⟨hfz17_0, hfz17_1, hfz17_2, hfz17_3, hfz17_4, hfz17_5⟩ := fz6_ BK315.out; have p316 : 0 ≤ (x17_1 : Int) := oD_; have q316 : x17_1 < (l2.length : Int) := oD_; obtain ⟨ad316, e316, hx316_0⟩ := Kd.at_int HR2.out x17_1 p316 q316; cases e316; have hn316_0 : ad316.block ≠ gb315 := Nat.ne_of_lt (Nat.lt_of_lt_of_le (by have := World.block_lt_of_cell? _ _ hx316_0; first | rwa [add_block] at this | exact this) GW315.out); have hn316_1 : ad316.block ≠ gb315 := Nat.ne_of_lt (Nat.lt_of_lt_of_le (by have := World.block_lt_of_cell? _ _ hx316_0; first | rwa [add_block] at this | exact this) GW315.out); have hn316_2 : ad316.block ≠ gb315 := Nat.ne_of_lt (Nat.lt_of_lt_of_le (by have := World.block_lt_of_cell? _ _ hx316_0; first | rwa [add_block] at this | exact this) GW315.out); have hn316_3 : ad316.block ≠ gb315 := Nat.ne_of_lt (Nat.lt_of_lt_of_le (by have := World.block_lt_of_cell? _ _ hx316_0; first | rwa [add_block] at this | exact this) GW315.out); have hn316_4 : ad316.block ≠ gb315 := Nat.ne_of_lt (Nat.lt_of_lt_of_le (by have := World.block_lt_of_cell? _ _ hx316_0; first | rwa [add_block] at this | exact this) GW315.out); have hn316_5 : ad316.block ≠ gb315 := Nat.ne_of_lt (Nat.lt_of_lt_of_le (by have := World.block_lt_of_cell? _ _ hx316_0; first | rwa [add_block] at this | exact this) GW315.out); replace hx316_0 := hC_ HB hx316_0; replace hx316_0 := (cell_far (p := ⟨gb315, 0, none⟩) (by first | (rw [add_block]; exact hn316_0) | (show (Addr.add _ _).block ≠ _; rw [add_block]; exact hn316_0) | exact hn316_0) (.int .i64 ((J24 l0 x17_1).f0))).trans hx316_0; replace hx316_0 := (cell_far (p := ⟨gb315, 1, none⟩) (by first | (rw [add_block]; exact hn316_1) | (show (Addr.add _ _).block ≠ _; rw [add_block]; exact hn316_1) | exact hn316_1) (.int .i64 ((J24 l0 x17_1).f1))).trans hx316_0; replace hx316_0 := (cell_far (p := ⟨gb315, 2, none⟩) (by first | (rw [add_block]; exact hn316_2) | (show (Addr.add _ _).block ≠ _; rw [add_block]; exact hn316_2) | exact hn316_2) (.int .i64 ((J24 l0 x17_1).f2))).trans hx316_0; replace hx316_0 := (cell_far (p := ⟨gb315, 3, none⟩) (by first | (rw [add_block]; exact hn316_3) | (show (Addr.add _ _).block ≠ _; rw [add_block]; exact hn316_3) | exact hn316_3) (.int .i64 ((J24 l0 x17_1).f3))).trans hx316_0; replace hx316_0 := (cell_far (p := ⟨gb315, 4, none⟩) (by first | (rw [add_block]; exact hn316_4) | (show (Addr.add _ _).block ≠ _; rw [add_block]; exact hn316_4) | exact hn316_4) (.int .i64 ((J24 l0 x17_1).f4))).trans hx316_0; replace hx316_0 := (cell_far (p := ⟨gb315, 5, none⟩) (by first | (rw [add_block]; exact hn316_5) | (show (Addr.add _ _).block ≠ _; rw [add_block]; exact hn316_5) | exact hn316_5) (.string ((J24 l0 x17_1).f5))).trans hx316_0; clear hn316_0; clear hn316_1; clear hn316_2; clear hn316_3; clear hn316_4; clear hn316_5; replace p316 := eq_true p316; replace q316 := eq_true q316; obtain ⟨hcz18_0, hcz18_1, hcz18_2, hcz18_3, hcz18_4, hcz18_5⟩ := cl6_ BK313.out; obtain ⟨hfz18_0, hfz18_1, hfz18_2, hfz18_3, hfz18_4, hfz18_5⟩ := fz6_ BK313.out) | ((with_reducible refine gC_ (f := 101) rfl ?_); refine gL_ (some 28) Tryz.func101 #[.agg #[.int .i64 a1_0, .int .i64 a1_1, .int .i64 a1_2, .int .i64 a1_3, .int .i64 a1_4, .string a1_5], .agg #[.int .i64 ((J24 l0 x17_1).f0), .int .i64 ((J24 l0 x17_1).f1), .int .i64 ((J24 l0 x17_1).f2), .int .i64 ((J24 l0 x17_1).f3), .int .i64 ((J24 l0 x17_1).f4), .string ((J24 l0 x17_1).f5)]] rfl ?_; (with_reducible refine (dag_reads.calls k1 a1_0 a1_1 a1_2 a1_3 a1_4 a1_5 ((J24 l0 x17_1).f0) ((J24 l0 x17_1).f1) ((J24 l0 x17_1).f2) ((J24 l0 x17_1).f3) ((J24 l0 x17_1).f4) ((J24 l0 x17_1).f5) t317 _ A13.out).mono ?_); rintro e w19 ⟨rfl, hb⟩; refine ⟨_, rfl, ?_⟩; replace BK313 := aM_ (kB_ (g := gb313) (o := .cells #[.int .i64 a1_0, .int .i64 a1_1, .int .i64 a1_2, .int .i64 a1_3, .int .i64 a1_4, .string a1_5] 24 (0, 0)) (by (with_reducible repeat (first | refine kN_ ?_ _ | refine kD_ ?_ | refine kA_ ?_ _)); refine blk_far ?_ NB313_315.out _; (with_reducible repeat (first | refine kN_ ?_ _ | refine kD_ ?_ | refine kA_ ?_ _)); refine blk_far ?_ NB313_315.out _; (with_reducible repeat (first | refine kN_ ?_ _ | refine kD_ ?_ | refine kA_ ?_ _)); refine blk_far ?_ NB313_315.out _; (with_reducible repeat (first | refine kN_ ?_ _ | refine kD_ ?_ | refine kA_ ?_ _)); refine blk_far ?_ NB313_315.out _; (with_reducible repeat (first | refine kN_ ?_ _ | refine kD_ ?_ | refine kA_ ?_ _)); refine blk_far ?_ NB313_315.out _; (with_reducible repeat (first | refine kN_ ?_ _ | refine kD_ ?_ | refine kA_ ?_ _)); refine blk_far ?_ NB313_315.out _; (with_reducible repeat (first | refine kN_ ?_ _ | refine kD_ ?_ | refine kA_ ?_ _)); exact BK313.out) hb); replace BK315 := aM_ (kB_ (g := gb315) (o := .cells #[.int .i64 ((J24 l0 x17_1).f0), .int .i64 ((J24 l0 x17_1).f1), .int .i64 ((J24 l0 x17_1).f2), .int .i64 ((J24 l0 x17_1).f3), .int .i64 ((J24 l0 x17_1).f4), .string ((J24 l0 x17_1).f5)] 24 (0, 0)) (by (with_reducible repeat (first | refine kN_ ?_ _ | refine kD_ ?_ | refine kA_ ?_ _)); refine blk_put (cs := #[.int .i64 ((J24 l0 x17_1).f0), .int .i64 ((J24 l0 x17_1).f1), .int .i64 ((J24 l0 x17_1).f2), .int .i64 ((J24 l0 x17_1).f3), .int .i64 ((J24 l0 x17_1).f4), .string (⟨#[]⟩ : ByteArray)]) ?_ 5 _ rfl; (with_reducible repeat (first | refine kN_ ?_ _ | refine kD_ ?_ | refine kA_ ?_ _)); refine blk_put (cs := #[.int .i64 ((J24 l0 x17_1).f0), .int .i64 ((J24 l0 x17_1).f1), .int .i64 ((J24 l0 x17_1).f2), .int .i64 ((J24 l0 x17_1).f3), .int .i64 0, .string (⟨#[]⟩ : ByteArray)]) ?_ 4 _ rfl; (with_reducible repeat (first | refine kN_ ?_ _ | refine kD_ ?_ | refine kA_ ?_ _)); refine blk_put (cs := #[.int .i64 ((J24 l0 x17_1).f0), .int .i64 ((J24 l0 x17_1).f1), .int .i64 ((J24 l0 x17_1).f2), .int .i64 0, .int .i64 0, .string (⟨#[]⟩ : ByteArray)]) ?_ 3 _ rfl; (with_reducible repeat (first | refine kN_ ?_ _ | refine kD_ ?_ | refine kA_ ?_ _)); refine blk_put (cs := #[.int .i64 ((J24 l0 x17_1).f0), .int .i64 ((J24 l0 x17_1).f1), .int .i64 0, .int .i64 0, .int .i64 0, .string (⟨#[]⟩ : ByteArray)]) ?_ 2 _ rfl; (with_reducible repeat (first | refine kN_ ?_ _ | refine kD_ ?_ | refine kA_ ?_ _)); refine blk_put (cs := #[.int .i64 ((J24 l0 x17_1).f0), .int .i64 0, .int .i64 0, .int .i64 0, .int .i64 0, .string (⟨#[]⟩ : ByteArray)]) ?_ 1 _ rfl; (with_reducible repeat (first | refine kN_ ?_ _ | refine kD_ ?_ | refine kA_ ?_ _)); refine blk_put (cs := #[.int .i64 0, .int .i64 0, .int .i64 0, .int .i64 0, .int .i64 0, .string (⟨#[]⟩ : ByteArray)]) ?_ 0 _ rfl; (with_reducible repeat (first | refine kN_ ?_ _ | refine kD_ ?_ | refine kA_ ?_ _)); exact BK315.out) hb); replace HB := aM_ (bT_ (bt_ HB GE313 GE315) hb)))
       (try simp only [Act.put, List.setIfInBounds_toArray, List.set_cons_zero, List.set_cons_succ])
       go_cut [7] (fun v7 wc => ∃ (kq : Nat) (x7_13 : Int), v7 = .int .i64 x7_13 ∧ As_ (dag_Least.j1 kq l2 x7_13 (rd l2 x17_1) l0 (l0.length : Int) x17_1 a1_0 a1_1 a1_2 a1_3 a1_4 a1_5 ((J24 l0 x17_1).f0) ((J24 l0 x17_1).f1) ((J24 l0 x17_1).f2) ((J24 l0 x17_1).f3) ((J24 l0 x17_1).f4) ((J24 l0 x17_1).f5) = some r) ∧ As_ (kq ≤ k1) ∧ As_ (wc.heap[gb313]? = some (.cells #[.int .i64 a1_0, .int .i64 a1_1, .int .i64 a1_2, .int .i64 a1_3, .int .i64 a1_4, .string a1_5] 24 (0, 0))) ∧ As_ (wc.heap[gb315]? = some (.cells #[.int .i64 ((J24 l0 x17_1).f0), .int .i64 ((J24 l0 x17_1).f1), .int .i64 ((J24 l0 x17_1).f2), .int .i64 ((J24 l0 x17_1).f3), .int .i64 ((J24 l0 x17_1).f4), .string ((J24 l0 x17_1).f5)] 24 (0, 0))) ∧ As_ (Below w.heap.size w wc))
       case first =>
        have H := HC14.out; clear HC14
        by_cases c20 : t317 = true
        ·subst c20; rw [if_pos rfl] at H; obtain ⟨t318, A21, H⟩ := oB_ H; obtain ⟨ji22, hji22⟩ : ∃ j_ : Int, (mx x7_1 (wrap64 ((rd l2 x17_1) + t318))) = j_ := ⟨_, rfl⟩
         replace H : (dag_Least.j1 k1 l2 ji22 (rd l2 x17_1) l0 (l0.length : Int) x17_1 a1_0 a1_1 a1_2 a1_3 a1_4 a1_5 ((J24 l0 x17_1).f0) ((J24 l0 x17_1).f1) ((J24 l0 x17_1).f2) ((J24 l0 x17_1).f3) ((J24 l0 x17_1).f4) ((J24 l0 x17_1).f5)) = some r := by first | (rw [hji22] at H; exact H) | (simp only [hji22] at H ⊢; exact H)
         (try rw [hji22] at A21)
         have hji22_ : (if x7_1 < (wrap64 ((rd l2 x17_1) + t318)) then (wrap64 ((rd l2 x17_1) + t318)) else x7_1) = ji22 := hji22; replace H := aM_ H; have hnb23 := NB315_313.out; have hnc23 := NB313_315.out; obtain ⟨hcz24_0, hcz24_1, hcz24_2, hcz24_3, hcz24_4, hcz24_5⟩ := cl6_ BK315.out; obtain ⟨hfz24_0, hfz24_1, hfz24_2, hfz24_3, hfz24_4, hfz24_5⟩ := fz6_ BK315.out
         go_wp2_with (first | ((with_reducible refine gC_ (f := 95) rfl ?_); refine gL_ (some 33) Tryz.func95 #[.int .i64 ((J24 l0 x17_1).f0)] rfl ?_; (with_reducible refine (isa_Late.calls k1 ((J24 l0 x17_1).f0) t318 _ A21.out).mono ?_); rintro e w' ⟨rfl, ⟨nd, rfl⟩⟩; refine ⟨_, rfl, ?_⟩))
         go_meet
         case rel => exact ⟨_, (ji22), (by first | rfl | (simp; done) | (simp only [← hji22] <;> (first | rfl | simp)) | (simp [*]; done) | (congr 1; rw [Bool.eq_iff_iff]; simp; done)), H, ⟨by have := HK1.out; first | omega | exact Nat.le_refl _⟩, ⟨rB_ BK313⟩, ⟨rB_ BK315⟩, ⟨bt_ HB GE313 GE315⟩⟩
        replace c20 := eF_ c20; subst c20; rw [if_neg Bool.false_ne_true] at H; replace H := aM_ H; go_wp2
        go_meet
        case rel => exact ⟨_, (x7_1), eQ_, H, ⟨by have := HK1.out; first | omega | exact Nat.le_refl _⟩, ⟨rB_ BK313⟩, ⟨rB_ BK315⟩, ⟨bt_ HB GE313 GE315⟩⟩
       case rest =>
        clear HC14; obtain ⟨kq, x7_13, rfl, HA, HJ13, BK313, BK315, HB⟩ := hcut
        cases kq with
        | zero => exact absurd HA.out (by simp [dag_Least.j1])
        | succ kj13 =>
         have H := HA.out; clear HA; simp only [dag_Least.j1] at H; have HC25 := aM_ H; clear H
         go_upto_region 10 with (fail)
         go_cut [48] (fun v48 wc => ∃ (kq : Nat) (x48_24 : Bool), v48 = .bool x48_24 ∧ As_ (dag_Least.j2 kq l2 x7_13 (rd l2 x17_1) l0 (l0.length : Int) x17_1 x48_24 a1_0 a1_1 a1_2 a1_3 a1_4 a1_5 ((J24 l0 x17_1).f0) ((J24 l0 x17_1).f1) ((J24 l0 x17_1).f2) ((J24 l0 x17_1).f3) ((J24 l0 x17_1).f4) ((J24 l0 x17_1).f5) = some r) ∧ As_ (kq ≤ kj13) ∧ As_ (wc.heap[gb313]? = some (.cells #[.int .i64 a1_0, .int .i64 a1_1, .int .i64 a1_2, .int .i64 a1_3, .int .i64 a1_4, .string a1_5] 24 (0, 0))) ∧ As_ (wc.heap[gb315]? = some (.cells #[.int .i64 ((J24 l0 x17_1).f0), .int .i64 ((J24 l0 x17_1).f1), .int .i64 ((J24 l0 x17_1).f2), .int .i64 ((J24 l0 x17_1).f3), .int .i64 ((J24 l0 x17_1).f4), .string ((J24 l0 x17_1).f5)] 24 (0, 0))) ∧ As_ (Below w.heap.size w wc))
         case first =>
          have H := HC25.out; clear HC25
          by_cases c26 : a1_0 = 33
          ·rw [if_pos c26] at H; have c26b0 := bH_ c26; have c26b1 := bF_ c26; clear c26
           (first | rw [c26b0] | (simp only [i64_w, i32_w]; rw [c26b0]) | skip)
           replace H := aM_ H; have hnb27 := NB313_315.out; have hnc27 := NB315_313.out; obtain ⟨hcz28_0, hcz28_1, hcz28_2, hcz28_3, hcz28_4, hcz28_5⟩ := cl6_ BK313.out; obtain ⟨hfz28_0, hfz28_1, hfz28_2, hfz28_3, hfz28_4, hfz28_5⟩ := fz6_ BK313.out; go_wp2
           go_meet
           case rel => exact ⟨_, (true), eQ_, H, ⟨by have := HK1.out; have := HJ13.out; first | omega | exact Nat.le_refl _⟩, ⟨rB_ BK313⟩, ⟨rB_ BK315⟩, ⟨bt_ HB GE313 GE315⟩⟩
          rw [if_neg c26] at H; have c26b0 := bE_ c26; have c26b1 := bG_ c26
          (first | rw [c26b0] | (simp only [i64_w, i32_w]; rw [c26b0]) | skip)
          obtain ⟨t319, A29, H⟩ := oB_ H
          by_cases c30 : t319 = true
          ·subst c30; rw [if_pos rfl] at H; obtain ⟨t320, A31, H⟩ := oB_ H; replace H := aM_ H; have hnb32 := NB313_315.out; have hnc32 := NB315_313.out; obtain ⟨hcz33_0, hcz33_1, hcz33_2, hcz33_3, hcz33_4, hcz33_5⟩ := cl6_ BK313.out; obtain ⟨hfz33_0, hfz33_1, hfz33_2, hfz33_3, hfz33_4, hfz33_5⟩ := fz6_ BK313.out
           go_wp2_with (first | (go_at_call 98; (with_reducible refine (isa_Effect.calls kj13 a1_0 true _ A29.out).mono ?_); rintro e w' ⟨rfl, ⟨nd, rfl⟩⟩; obtain ⟨hcz34_0, hcz34_1, hcz34_2, hcz34_3, hcz34_4, hcz34_5⟩ := cl6_ BK315.out; obtain ⟨hfz34_0, hfz34_1, hfz34_2, hfz34_3, hfz34_4, hfz34_5⟩ := fz6_ BK315.out) | (go_at_call 98; (with_reducible refine (isa_Effect.calls kj13 ((J24 l0 x17_1).f0) t320 _ A31.out).mono ?_); rintro e w' ⟨rfl, ⟨nd, rfl⟩⟩))
           go_meet
           case rel => exact ⟨_, (t320), eQ_, H, ⟨by have := HK1.out; have := HJ13.out; first | omega | exact Nat.le_refl _⟩, ⟨rB_ BK313⟩, ⟨rB_ BK315⟩, ⟨bt_ HB GE313 GE315⟩⟩
          replace c30 := eF_ c30; subst c30; rw [if_neg Bool.false_ne_true] at H; replace H := aM_ H; have hnb35 := NB313_315.out; have hnc35 := NB315_313.out; obtain ⟨hcz36_0, hcz36_1, hcz36_2, hcz36_3, hcz36_4, hcz36_5⟩ := cl6_ BK313.out; obtain ⟨hfz36_0, hfz36_1, hfz36_2, hfz36_3, hfz36_4, hfz36_5⟩ := fz6_ BK313.out
          go_wp2_with (first | (go_at_call 98; (with_reducible refine (isa_Effect.calls kj13 a1_0 false _ A29.out).mono ?_); rintro e w' ⟨rfl, ⟨nd, rfl⟩⟩))
          go_meet
          case rel => exact ⟨_, (false), eQ_, H, ⟨by have := HK1.out; have := HJ13.out; first | omega | exact Nat.le_refl _⟩, ⟨rB_ BK313⟩, ⟨rB_ BK315⟩, ⟨bt_ HB GE313 GE315⟩⟩
         case rest =>
          clear HC25; obtain ⟨kq, x48_24, rfl, HA, HJ24, BK313, BK315, HB⟩ := hcut
          cases kq with
          | zero => exact absurd HA.out (by simp [dag_Least.j2])
          | succ kj24 =>
           have H := HA.out; clear HA; simp only [dag_Least.j2] at H; have HC37 := aM_ H; clear H
           go_upto_if 48 with (fail)
           go_cut [7] (fun v7 wc => ∃ (kq : Nat) (x7_36 : Int), v7 = .int .i64 x7_36 ∧ As_ (dag_Least.j3 kq l2 x7_36 (rd l2 x17_1) l0 (l0.length : Int) x17_1 a1_0 a1_1 a1_2 a1_3 a1_4 a1_5 ((J24 l0 x17_1).f0) ((J24 l0 x17_1).f1) ((J24 l0 x17_1).f2) ((J24 l0 x17_1).f3) ((J24 l0 x17_1).f4) ((J24 l0 x17_1).f5) = some r) ∧ As_ (kq ≤ kj24) ∧ As_ (wc.heap[gb313]? = some (.cells #[.int .i64 a1_0, .int .i64 a1_1, .int .i64 a1_2, .int .i64 a1_3, .int .i64 a1_4, .string a1_5] 24 (0, 0))) ∧ As_ (wc.heap[gb315]? = some (.cells #[.int .i64 ((J24 l0 x17_1).f0), .int .i64 ((J24 l0 x17_1).f1), .int .i64 ((J24 l0 x17_1).f2), .int .i64 ((J24 l0 x17_1).f3), .int .i64 ((J24 l0 x17_1).f4), .string ((J24 l0 x17_1).f5)] 24 (0, 0))) ∧ As_ (Below w.heap.size w wc))
           case first =>
            have H := HC37.out; clear HC37
            by_cases c38 : x48_24 = true
            ·subst c38; rw [if_pos rfl] at H; obtain ⟨ji39, hji39⟩ : ∃ j_ : Int, (mx x7_13 (wrap64 ((rd l2 x17_1) + 1))) = j_ := ⟨_, rfl⟩
             replace H : (dag_Least.j3 kj24 l2 ji39 (rd l2 x17_1) l0 (l0.length : Int) x17_1 a1_0 a1_1 a1_2 a1_3 a1_4 a1_5 ((J24 l0 x17_1).f0) ((J24 l0 x17_1).f1) ((J24 l0 x17_1).f2) ((J24 l0 x17_1).f3) ((J24 l0 x17_1).f4) ((J24 l0 x17_1).f5)) = some r := by first | (rw [hji39] at H; exact H) | (simp only [hji39] at H ⊢; exact H)
             have hji39_ : (if x7_13 < (wrap64 ((rd l2 x17_1) + 1)) then (wrap64 ((rd l2 x17_1) + 1)) else x7_13) = ji39 := hji39; replace H := aM_ H; go_wp2
             go_meet
             case rel => exact ⟨_, (ji39), (by first | rfl | (simp; done) | (simp only [← hji39] <;> (first | rfl | simp)) | (simp [*]; done) | (congr 1; rw [Bool.eq_iff_iff]; simp; done)), H, ⟨by have := HK1.out; have := HJ13.out; have := HJ24.out; first | omega | exact Nat.le_refl _⟩, ⟨rB_ BK313⟩, ⟨rB_ BK315⟩, ⟨bt_ HB GE313 GE315⟩⟩
            replace c38 := eF_ c38; subst c38; rw [if_neg Bool.false_ne_true] at H; replace H := aM_ H; go_wp2
            go_meet
            case rel => exact ⟨_, (x7_13), eQ_, H, ⟨by have := HK1.out; have := HJ13.out; have := HJ24.out; first | omega | exact Nat.le_refl _⟩, ⟨rB_ BK313⟩, ⟨rB_ BK315⟩, ⟨bt_ HB GE313 GE315⟩⟩
           case rest =>
            clear HC37; obtain ⟨kq, x7_36, rfl, HA, HJ36, BK313, BK315, HB⟩ := hcut
            cases kq with
            | zero => exact absurd HA.out (by simp [dag_Least.j3])
            | succ kj36 =>
             have H := HA.out; clear HA; simp only [dag_Least.j3] at H
             by_cases c40 : a1_0 = 33
             ·rw [if_pos c40] at H; have c40b0 := bH_ c40; have c40b1 := bF_ c40; clear c40; replace H := aM_ H; have hnb41 := NB313_315.out; have hnc41 := NB315_313.out; obtain ⟨hcz42_0, hcz42_1, hcz42_2, hcz42_3, hcz42_4, hcz42_5⟩ := cl6_ BK313.out; obtain ⟨hfz42_0, hfz42_1, hfz42_2, hfz42_3, hfz42_4, hfz42_5⟩ := fz6_ BK313.out; go_wp2
              go_roundg kj36
              case measure => have := HK1.out; have := HJ13.out; have := HJ24.out; have := HJ36.out; omega
              case rel => exact ⟨(x7_36), (wrap64 (x17_1 + 1)), eQ_, eQ_, H, ⟨by have := HK1.out; have := HJ13.out; have := HJ24.out; have := HJ36.out; omega⟩, ⟨rB_ BK313⟩, ⟨bt_ HB GE313 GE315⟩⟩
             rw [if_neg c40] at H; have c40b0 := bE_ c40; have c40b1 := bG_ c40; obtain ⟨t321, A43, H⟩ := oB_ H; obtain ⟨ji44, hji44⟩ : ∃ j_ : Int, (mx x7_36 (wrap64 ((rd l2 x17_1) - 2))) = j_ := ⟨_, rfl⟩
             replace H : (dag_Least.l0 kj36 l2 (mx (ji44) (wrap64 ((wrap64 ((wrap64 ((rd l2 x17_1) + t321)) - 2)) - 1))) l0 (l0.length : Int) (wrap64 (x17_1 + 1)) a1_0 a1_1 a1_2 a1_3 a1_4 a1_5) = some r := by first | (rw [hji44] at H; exact H) | (simp only [hji44] at H ⊢; exact H)
             (try rw [hji44] at A43)
             have hji44_ : (if x7_36 < (wrap64 ((rd l2 x17_1) - 2)) then (wrap64 ((rd l2 x17_1) - 2)) else x7_36) = ji44 := hji44; obtain ⟨ji45, hji45⟩ : ∃ j_ : Int, (mx (ji44) (wrap64 ((wrap64 ((wrap64 ((rd l2 x17_1) + t321)) - 2)) - 1))) = j_ := ⟨_, rfl⟩
             replace H : (dag_Least.l0 kj36 l2 ji45 l0 (l0.length : Int) (wrap64 (x17_1 + 1)) a1_0 a1_1 a1_2 a1_3 a1_4 a1_5) = some r := by first | (rw [hji45] at H; exact H) | (simp only [hji45] at H ⊢; exact H)
             (try rw [hji45] at A43)
             have hji45_ : (if (ji44) < (wrap64 ((wrap64 ((wrap64 ((rd l2 x17_1) + t321)) - 2)) - 1)) then (wrap64 ((wrap64 ((wrap64 ((rd l2 x17_1) + t321)) - 2)) - 1)) else (ji44)) = ji45 := hji45; replace H := aM_ H; have hnb46 := NB313_315.out; have hnc46 := NB315_313.out; obtain ⟨hcz47_0, hcz47_1, hcz47_2, hcz47_3, hcz47_4, hcz47_5⟩ := cl6_ BK313.out; obtain ⟨hfz47_0, hfz47_1, hfz47_2, hfz47_3, hfz47_4, hfz47_5⟩ := fz6_ BK313.out; obtain ⟨hcz48_0, hcz48_1, hcz48_2, hcz48_3, hcz48_4, hcz48_5⟩ := cl6_ BK315.out; obtain ⟨hfz48_0, hfz48_1, hfz48_2, hfz48_3, hfz48_4, hfz48_5⟩ := fz6_ BK315.out
             go_wp2_with (first | ((with_reducible refine gC_ (f := 95) rfl ?_); refine gL_ (some 62) Tryz.func95 #[.int .i64 ((J24 l0 x17_1).f0)] rfl ?_; (with_reducible refine (isa_Late.calls kj36 ((J24 l0 x17_1).f0) t321 _ A43.out).mono ?_); rintro e w' ⟨rfl, ⟨nd, rfl⟩⟩; refine ⟨_, rfl, ?_⟩))
             go_roundg kj36
             case measure => have := HK1.out; have := HJ13.out; have := HJ24.out; have := HJ36.out; omega
             case rel => exact ⟨(ji45), (wrap64 (x17_1 + 1)), (by first | rfl | (simp; done) | (simp only [← hji45] <;> (first | rfl | simp)) | (simp [*]; done) | (congr 1; rw [Bool.eq_iff_iff]; simp; done)), eQ_, H, ⟨by have := HK1.out; have := HJ13.out; have := HJ24.out; have := HJ36.out; omega⟩, ⟨rB_ BK313⟩, ⟨bt_ HB GE313 GE315⟩⟩
      rw [if_neg c12] at H; exact absurd H (by simp)
     rw [if_neg c11] at H; exact absurd H (by simp)
    rw [if_neg c10] at H; exact absurd H (by simp)
   rw [if_neg c9] at H; have c9b0 := dF_ c9; clear c9; obtain rfl := oI_ H; go_wp2; go_ret; exact ⟨eR_, bs_ HB GE313⟩
end
section
attribute [local go_sem] Oper.semAt_some
def takenUp (at_ sl : List Int) (c s : Int) : Nat → Bool
  | 0 => false
  | j + 1 => takenUp at_ sl c s j || (rd at_ j == c && rd sl j == s)
theorem takenUp_at (at_ sl : List Int) (c s : Int) (j : Nat) (h : (rd at_ j == c && rd sl j == s) = true) : ∀ n, j < n → takenUp at_ sl c s n = true
  | n + 1, hn => by
    rw [takenUp]
    by_cases e : j = n
    · subst e; rw [h, Bool.or_true]
    · rw [takenUp_at at_ sl c s j h n (by omega), Bool.true_or]
theorem taken_calls (g : Nat) (cs : Array Value) (Aat Asl : Option Addr) (n cat csl : Nat) (at_ sl : List Int) (c s : Int) (w : World) (hg : w.heap[g]? = some (.cells cs 79 (0, 0))) (h4 : cs[4]? = some (.slice Aat n cat)) (h5 : cs[5]? = some (.slice Asl n csl))
    (hat : Kd.C (Kd.int .i64) w Aat n at_) (hsl : Kd.C (Kd.int .i64) w Asl n sl) (hmx : n ≤ 1000000) :
    Calls Tryz.prog 97 #[.pointer (some ⟨g, 0, none⟩), .int .i64 c, .int .i64 s] w fun x w' => x = .returned (.bool (takenUp at_ sl c s n)) ∧ Below w.heap.size w w' := by
  have x4 : w.cell? ⟨g, 4, none⟩ = some (.slice Aat n cat) := (bC_ hg 4).trans h4; have HG := aM_ hg; have H5 := aM_ h5; have HA := aM_ hat; have HS := aM_ hsl; clear hg h4 h5 hat hsl; go_enter Tryz.func97, Tryz.ntmps97; go_wp2
  go_loopw [14] (fun i wr => ∃ j : Nat, j ≤ n ∧ i = .int .i64 j ∧ As_ (takenUp at_ sl c s j = false) ∧ As_ (Below w.heap.size w wr)) (fun i _ => n - (intOf i).toNat)
  case atStart => exact ⟨0, Nat.zero_le _, rfl, ⟨rfl⟩, ⟨Below.refl _ _⟩⟩
  case round =>
    obtain ⟨j, hj, rfl, HN, HB⟩ := hrel
    by_cases hlt : j < n
    · obtain ⟨ad, e1, hx⟩ := Kd.at_int HA.out (j : Int) (Int.natCast_nonneg _) (by omega); obtain ⟨ad2, e2, hy⟩ := Kd.at_int HS.out (j : Int) (Int.natCast_nonneg _) (by omega); subst e1; subst e2; rw [Int.toNat_natCast] at hx hy; replace hx := hC_ HB hx; replace hy := hC_ HB hy; have x5 : wr.cell? ⟨g, 5, none⟩ = some (.slice (some ad2) n csl) := (bC_ ((HB.out.block g (blk_lt HG.out)).trans HG.out) 5).trans H5.out; have p1 : ((0 : Int) ≤ (j : Int)) = True := eq_true (Int.natCast_nonneg _); have q1 : ((j : Int) < (n : Int)) = True := eq_true (by omega); have q2 : (j < n) = True := eq_true hlt; have hw2 : wrap64 ((j : Int) + 1) = ((j + 1 : Nat) : Int) := by unfold wrap64; omega
      have hstep : takenUp at_ sl c s (j + 1) = (rd at_ j == c && rd sl j == s) := by rw [takenUp, HN.out, Bool.false_or]
      have HT := aM_ hstep; clear hstep
      by_cases h1 : rd at_ j = c
      · have c1 : (rd at_ j = c) = True := eq_true h1; have c1b : (rd at_ j == c) = true := beq_iff_eq.mpr h1; clear h1
        by_cases h2 : rd sl j = s
        · have c2 : (rd sl j = s) = True := eq_true h2; have c2b : (rd sl j == s) = true := beq_iff_eq.mpr h2; clear h2; have hres := takenUp_at at_ sl c s j (by rw [c1b, c2b]; rfl) n hlt; have HR := aM_ hres; clear hres; go_wp2; go_ret; exact ⟨by rw [HR.out]; rfl, HB.out⟩
        · have c2 : (rd sl j = s) = False := eq_false h2; have c2b : (rd sl j == s) = false := beq_eq_false_iff_ne.mpr h2; clear h2; go_wp2; refine ⟨⟨j + 1, by omega, by congr 1, ⟨by rw [HT.out, c2b, Bool.and_false]⟩, ⟨HB.out⟩⟩, ?_⟩; simp [intOf]; omega
      · have c1 : (rd at_ j = c) = False := eq_false h1; have c1b : (rd at_ j == c) = false := beq_eq_false_iff_ne.mpr h1; clear h1; go_wp2; refine ⟨⟨j + 1, by omega, by congr 1, ⟨by rw [HT.out, c1b, Bool.false_and]⟩, ⟨HB.out⟩⟩, ?_⟩; simp [intOf]; omega
    · obtain rfl : j = n := by omega
      have q1 : ((j : Int) < (j : Int)) = False := eq_false (by omega); go_wp2; go_ret; exact ⟨by rw [HN.out]; rfl, HB.out⟩
end
section
attribute [local go_sem] Oper.semAt_some
def longUp (l : List S24) (at_ : List Int) : Nat → Int
  | 0 => 0
  | j + 1 => mx (longUp l at_ j) (wrap64 (rd at_ j + lateOp (J24 l j).f0))
def freeFrom (at_ sl : List Int) (n : Nat) : Nat → Int → Int
  | 0, c => c
  | f + 1, c => if takenUp at_ sl c 0 n = true then freeFrom at_ sl n f (c + 1) else c
theorem last_calls (g : Nat) (cs : Array Value) (Al Aat Asl : Option Addr) (cl cat csl : Nat) (l : List S24) (at_ sl : List Int) (x : S24) (t : Int) (F : Nat) (w : World) (hg : w.heap[g]? = some (.cells cs 79 (0, 0))) (h0 : cs[0]? = some (.slice Al l.length cl)) (h4 : cs[4]? = some (.slice Aat l.length cat)) (h5 : cs[5]? = some (.slice Asl l.length csl))
    (hl : Kd.C k24 w Al l.length l) (hat : Kd.C (Kd.int .i64) w Aat l.length at_) (hsl : Kd.C (Kd.int .i64) w Asl l.length sl) (hcl : l.length ≤ cl) (hcat : l.length ≤ cat) (hmx : l.length ≤ 200) (ho : okL l) (hal : at_.length = l.length)
    (hleast : ∀ k, 100000 ≤ k → dag_Least.f k l x.f0 x.f1 x.f2 x.f3 x.f4 x.f5 at_ = some t) (ht : 0 ≤ t ∧ t ≤ 100000) (hF : F ≤ 100000) (hfree : takenUp at_ sl (freeFrom at_ sl l.length F t) 0 l.length = false) :
    Calls Tryz.prog 61 #[.pointer (some ⟨g, 0, none⟩), .agg #[.int .i64 x.f0, .int .i64 x.f1, .int .i64 x.f2, .int .i64 x.f3, .int .i64 x.f4, .string x.f5]] w fun e w' =>
      e = .returned (if x.f0 = 0 then .tuple #[.int .i64 (-1), .int .i64 (longUp l at_ l.length)] else .tuple #[.int .i64 (freeFrom at_ sl l.length F t), .int .i64 (if x.f0 = 33 then freeFrom at_ sl l.length F t + 1 else freeFrom at_ sl l.length F t + 1 + 2)]) ∧ Below w.heap.size w w' := by
  have hu24 := Tryz.underlying24; have HG := aM_ hg; have H0 := aM_ h0; have H4 := aM_ h4; have H5 := aM_ h5; have HL := aM_ hl; have HA := aM_ hat; have HS := aM_ hsl; have HO := aM_ ho; have HE := aM_ hleast; have HFR := aM_ hfree; clear hg h0 h4 h5 hl hat hsl ho hleast hfree; go_enter Tryz.func61, Tryz.ntmps61
  by_cases hx : x.f0 = 0
  · have d1 : (x.f0 = 0) = True := eq_true hx; have d2 : (x.f0 == 0) = true := beq_iff_eq.mpr hx
    go_wp2_with (first | ((with_reducible refine gate_dst (N := 3) rfl ?_); refine bX_ (N := 3) (cs := #[.int .i64 x.f0, .int .i64 x.f1, .int .i64 x.f2, .int .i64 x.f3, .int .i64 x.f4, .string x.f5]) (t := 24) ?_; intro g3 hg w3 hbox hb; have z0 : w3.cell? ⟨g3, 0, none⟩ = some (.int .i64 x.f0) := (bC_ hbox 0).trans rfl; have x4 : w3.cell? ⟨g, 4, none⟩ = some (.slice Aat l.length cat) := (bC_ (kB_ HG.out hb) 4).trans H4.out; have HB1 := aM_ hb; clear hbox hg hb))
    go_loopw [5, 16] (fun v i wr => ∃ j : Nat, j ≤ l.length ∧ i = .int .i64 j ∧ v = .int .i64 (longUp l at_ j) ∧ As_ (Below w.heap.size w wr)) (fun _ i _ => l.length - (intOf i).toNat)
    case atStart => exact ⟨0, Nat.zero_le _, rfl, rfl, ⟨HB1.out⟩⟩
    case round =>
      clear z0 x4 HB1; obtain ⟨j, hj, rfl, rfl, HB⟩ := hrel
      by_cases hlt : j < l.length
      · obtain ⟨ad, e1, hx⟩ := Kd.at_int HA.out (j : Int) (Int.natCast_nonneg _) (by omega); obtain ⟨ad2, e2, hx0, hx1, hx2, hx3, hx4, hx5⟩ := at_T24 HL.out (j : Int) (Int.natCast_nonneg _) (by omega); subst e1; subst e2; rw [Int.toNat_natCast] at hx hx0; clear hx1 hx2 hx3 hx4 hx5; replace hx := hC_ HB hx; replace hx0 := hC_ HB hx0; have x0 : wr.cell? ⟨g, 0, none⟩ = some (.slice (some ad2) l.length cl) := (bC_ ((HB.out.block g (blk_lt HG.out)).trans HG.out) 0).trans H0.out; have p1 : ((0 : Int) ≤ (j : Int)) = True := eq_true (Int.natCast_nonneg _); have q1 : ((j : Int) < (l.length : Int)) = True := eq_true (by omega); have q2 : (j < l.length) = True := eq_true hlt; have hw2 : wrap64 ((j : Int) + 1) = ((j + 1 : Nat) : Int) := by unfold wrap64; omega
        have hy := okI_op (HO.out j hlt); have HLA := aM_ (late_eq (k := 10) (by omega) (J24 l (j : Int)).f0 hy.1 hy.2); clear hy
        go_wp2_with (go_at_call 95; (with_reducible refine (isa_Late.calls 10 (J24 l (j : Int)).f0 (lateOp (J24 l (j : Int)).f0) _ HLA.out).mono ?_); rintro e w' ⟨rfl, ⟨nd, rfl⟩⟩)
        refine ⟨⟨j + 1, by omega, by congr 1, by rfl, ⟨bN_ HB.out nd⟩⟩, ?_⟩; simp [intOf]; omega
      · obtain rfl : j = l.length := by omega
        have q1 : ((l.length : Int) < (l.length : Int)) = False := eq_false (by omega); go_wp2
        go_ret2
        exact ⟨by first | rfl | (rw [if_pos hx]; rfl), HB.out⟩
  · have d1 : (x.f0 = 0) = False := eq_false hx; have d2 : (x.f0 == 0) = false := beq_eq_false_iff_ne.mpr hx
    go_wp2_with (first | ((with_reducible refine gate_dst (N := 3) rfl ?_); refine bX_ (N := 3) (cs := #[.int .i64 x.f0, .int .i64 x.f1, .int .i64 x.f2, .int .i64 x.f3, .int .i64 x.f4, .string x.f5]) (t := 24) ?_; intro g3 hg w3 hbox hb; have z0 : w3.cell? ⟨g3, 0, none⟩ = some (.int .i64 x.f0) := (bC_ hbox 0).trans rfl; have z1 : w3.cell? ⟨g3, 1, none⟩ = some (.int .i64 x.f1) := (bC_ hbox 1).trans rfl; have z2 : w3.cell? ⟨g3, 2, none⟩ = some (.int .i64 x.f2) := (bC_ hbox 2).trans rfl; have z3 : w3.cell? ⟨g3, 3, none⟩ = some (.int .i64 x.f3) := (bC_ hbox 3).trans rfl; have z4 : w3.cell? ⟨g3, 4, none⟩ = some (.int .i64 x.f4) := (bC_ hbox 4).trans rfl; have z5 : w3.cell? ⟨g3, 5, none⟩ = some (.string x.f5) := (bC_ hbox 5).trans rfl; have x0 : w3.cell? ⟨g, 0, none⟩ = some (.slice Al l.length cl) := (bC_ (kB_ HG.out hb) 0).trans H0.out; have x4 : w3.cell? ⟨g, 4, none⟩ = some (.slice Aat l.length cat) := (bC_ (kB_ HG.out hb) 4).trans H4.out; have BX := aM_ hbox; have HB1 := aM_ hb; clear hbox hg hb))
    refine wp_normal_only ?_; unfold OnlyNormal; have HLE := aM_ (fun W hW => dag_Least.calls 100000 Al cl l x.f0 x.f1 x.f2 x.f3 x.f4 x.f5 Aat cat at_ t W (Kd.C_below HL.out hW) hcl (by rw [hal]; exact Kd.C_below HA.out hW) (by omega) (HE.out 100000 (Nat.le_refl _))); rw [hal] at HLE
    go_region_with (go_at_call 96; refine (HLE.out _ ?hW).mono ?_; (case hW => repeat (first | exact HB1.out | apply b1_)); rintro e w' ⟨rfl, hb⟩; have HB2 := aM_ hb; clear hb)
    all_goals (try dsimp only)
    all_goals (try simp only [Act.put, List.setIfInBounds_toArray, List.set_cons_zero, List.set_cons_succ])
    all_goals go_wp2_with fail
    all_goals (try (rename_i hd_; injection hd_ with hd_; subst hd_))
    all_goals (try simp only [List.set_cons_zero, List.set_cons_succ])
    all_goals (
      go_loopw [4] (fun v wr => ∃ (c : Int) (f : Nat), v = .int .i64 c ∧ As_ (0 ≤ c ∧ c + f ≤ 200000) ∧ As_ (freeFrom at_ sl l.length f c = freeFrom at_ sl l.length F t) ∧ As_ (Below w.heap.size w wr) ∧ As_ (wr.cell? ⟨g3, 0, none⟩ = some (.int .i64 x.f0))) (fun v _ => (200001 - intOf v).toNat)
      case atStart => exact ⟨t, F, rfl, ⟨ht.1, by omega⟩, ⟨rfl⟩, ⟨(b1_ HB1.out).trans (HB2.out.mono HB1.out.size)⟩, ⟨pw_cell_below HB2.out z0⟩⟩
      case round =>
        clear HB1 HB2 BX z0 z1 z2 z3 z4 z5 x0 x4; obtain ⟨c, f, rfl, HC, HF, HB, HZ⟩ := hrel; have hT := taken_calls g cs Aat Asl l.length cat csl at_ sl c 0 wr ((HB.out.block g (blk_lt HG.out)).trans HG.out) H4.out H5.out (Kd.C_below HA.out HB.out) (Kd.C_below HS.out HB.out) (by omega); have hw : wrap64 (c + 1) = c + 1 := by have := HC.out; unfold wrap64; omega
        cases htk : takenUp at_ sl c 0 l.length with
        | true =>
          rw [htk] at hT; have HT := aM_ hT; clear hT
          obtain ⟨f, rfl⟩ : ∃ f', f = f' + 1 := by
            cases f with
            | zero => exact absurd HFR.out (by rw [← HF.out]; show ¬ takenUp at_ sl c 0 l.length = false; rw [htk]; decide)
            | succ f => exact ⟨f, rfl⟩
          have hstep : freeFrom at_ sl l.length f (c + 1) = freeFrom at_ sl l.length F t := by rw [← HF.out, freeFrom, if_pos htk]
          have HP := aM_ hstep; clear hstep htk
          go_wp2_with (go_at_call 97; refine HT.out.mono ?_; rintro e w' ⟨rfl, hb⟩; have HB9 := aM_ hb; clear hb)
          refine ⟨⟨c + 1, f, by congr 1, ⟨by have := HC.out; omega⟩, ⟨HP.out⟩, ⟨HB.out.trans (HB9.out.mono HB.out.size)⟩, ⟨pw_cell_below HB9.out HZ.out⟩⟩, ?_⟩; have := HC.out
          (try rw [hw])
          show (200001 - (c + 1)).toNat < (200001 - c).toNat
          omega
        | false =>
          rw [htk] at hT; have HT := aM_ hT; clear hT
          have hc : freeFrom at_ sl l.length F t = c := by
            rw [← HF.out]
            cases f with
            | zero => rfl
            | succ f => rw [freeFrom, if_neg (by rw [htk]; decide)]
          have HP := aM_ hc; have HC2 := aM_ (show wrap64 (c + 1) = c + 1 ∧ wrap64 (c + 1 + 2) = c + 1 + 2 from by have := HC.out; unfold wrap64; omega); have hw3 := HC2.out.2; clear hc htk
          by_cases h33 : x.f0 = 33
          · have H33 := aM_ h33; have d3 : (x.f0 == 33) = true := beq_iff_eq.mpr h33; have d4 : (x.f0 = 33) = True := eq_true h33; clear h33
            go_wp2_with (go_at_call 97; refine HT.out.mono ?_; rintro e w' ⟨rfl, hb⟩; have z9 := pw_cell_below hb HZ.out; have HB9 := aM_ hb; clear hb)
            go_ret2
            exact ⟨by first | (rw [HP.out]; rfl) | (rw [HP.out, if_pos H33.out]; rfl) | (rw [if_neg hx, HP.out, if_pos H33.out]; rfl), HB.out.trans (HB9.out.mono HB.out.size)⟩
          · have H33 := aM_ h33; have d3 : (x.f0 == 33) = false := beq_eq_false_iff_ne.mpr h33; have d4 : (x.f0 = 33) = False := eq_false h33; clear h33
            go_wp2_with (go_at_call 97; refine HT.out.mono ?_; rintro e w' ⟨rfl, hb⟩; have z9 := pw_cell_below hb HZ.out; have HB9 := aM_ hb; clear hb)
            go_ret2
            exact ⟨by first | (rw [HP.out]; rfl) | (rw [HP.out, if_neg H33.out]; rfl) | (rw [if_neg hx, HP.out, if_neg H33.out]; rfl), HB.out.trans (HB9.out.mono HB.out.size)⟩)
end
section
attribute [local go_sem] max2_int min2_int max_two min_two max_three min_three max_four min_four
end
section
def step1 (x y : S24) (c n : Int) : Int := if rdsP x y = true then mx n (wrap64 (c + lateOp y.f0)) else n
def step2 (x y : S24) (c n : Int) : Int := if (decide (x.f0 = 33) || (effOp x.f0 && effOp y.f0)) = true then mx n (wrap64 (c + 1)) else n
def step3 (x y : S24) (c n : Int) : Int := if x.f0 = 33 then n else mx (mx n (wrap64 (c - 2))) (wrap64 ((wrap64 ((wrap64 (c + lateOp y.f0)) - 2)) - 1))
def lastUp (l : List S24) (at_ : List Int) (x : S24) : Nat → Nat → Int → Int
  | 0, _, n => n
  | d + 1, i, n => lastUp l at_ x d (i + 1) (step3 x (J24 l i) (rd at_ i) (step2 x (J24 l i) (rd at_ i) (step1 x (J24 l i) (rd at_ i) n)))
def lastOf (l : List S24) (x : S24) (at_ : List Int) : Int := if x.f0 = 0 then 0 else lastUp l at_ x l.length 0 0
theorem own_j3 {k : Nat} (hk : 40 ≤ k) (x y : S24) (hx : 0 ≤ x.f0 ∧ x.f0 ≤ 33) (hy : 0 ≤ y.f0 ∧ y.f0 ≤ 33) (at_ : List Int) (l : List S24) (n c m : Int) (i : Nat) (hi : i ≤ 1000000) :
    dag_Least.j3 (k + 1) at_ n c l m (i : Int) x.f0 x.f1 x.f2 x.f3 x.f4 x.f5 y.f0 y.f1 y.f2 y.f3 y.f4 y.f5 = dag_Least.l0 k at_ (step3 x y c n) l m ((i + 1 : Nat) : Int) x.f0 x.f1 x.f2 x.f3 x.f4 x.f5 := by
  rw [dag_Least.j3, wrap_at (by omega)]; unfold step3
  by_cases h : x.f0 = 33
  · rw [if_pos h, if_pos h]
  · rw [if_neg h, if_neg h, late_eq (by omega) _ hy.1 hy.2, Option.bind_some]
theorem own_j1 {k : Nat} (hk : 40 ≤ k) (x y : S24) (hx : 0 ≤ x.f0 ∧ x.f0 ≤ 33) (hy : 0 ≤ y.f0 ∧ y.f0 ≤ 33) (at_ : List Int) (l : List S24) (n c m : Int) (i : Nat) (hi : i ≤ 1000000) :
    dag_Least.j1 (k + 1 + 1 + 1) at_ n c l m (i : Int) x.f0 x.f1 x.f2 x.f3 x.f4 x.f5 y.f0 y.f1 y.f2 y.f3 y.f4 y.f5 = dag_Least.l0 k at_ (step3 x y c (step2 x y c n)) l m ((i + 1 : Nat) : Int) x.f0 x.f1 x.f2 x.f3 x.f4 x.f5 := by
  rw [dag_Least.j1]; unfold step2
  by_cases h : x.f0 = 33
  · rw [if_pos h, dag_Least.j2, if_pos rfl, decide_eq_true h, Bool.true_or, if_pos rfl]; exact own_j3 hk x y hx hy at_ l _ c m i hi
  · rw [if_neg h, eff_eq (by omega) _ hx.1 hx.2, Option.bind_some, decide_eq_false h, Bool.false_or]
    cases effOp x.f0 with
    | false =>
      rw [if_neg (by decide), dag_Least.j2, if_neg (by decide), Bool.false_and, if_neg (by decide)]
      exact own_j3 hk x y hx hy at_ l _ c m i hi
    | true =>
      rw [if_pos rfl, eff_eq (by omega) _ hy.1 hy.2, Option.bind_some, dag_Least.j2, Bool.true_and]
      cases effOp y.f0 with
      | false =>
        rw [if_neg (by decide), if_neg (by decide)]
        exact own_j3 hk x y hx hy at_ l _ c m i hi
      | true =>
        rw [if_pos rfl, if_pos rfl]; exact own_j3 hk x y hx hy at_ l _ c m i hi
theorem own_last (l : List S24) (hl : l.length ≤ 1000) (ho : okL l) (x : S24) (hx : 0 ≤ x.f0 ∧ x.f0 ≤ 33) (at_ : List Int) (ha : at_.length = l.length) : ∀ (d k i : Nat) (n : Int), i + d = l.length → 100 + 4 * d ≤ k →
    dag_Least.l0 k at_ n l (l.length : Int) (i : Int) x.f0 x.f1 x.f2 x.f3 x.f4 x.f5 = some (lastUp l at_ x d i n)
  | 0, k, i, n, hi, hk => by
    obtain ⟨k, rfl⟩ : ∃ k', k = k' + 1 := ⟨k - 1, by omega⟩
    rw [dag_Least.l0, if_neg (by omega)]; rfl
  | d + 1, k, i, n, hi, hk => by
    obtain ⟨k, rfl⟩ : ∃ k', k = k' + 1 + 1 + 1 + 1 := ⟨k - 4, by omega⟩
    have hy := okI_op (ho i (by omega)); rw [dag_Least.l0, if_pos (by omega), if_pos (by omega), if_pos (by omega), if_pos (by omega), reads_eq (by omega) x _ hx hy, Option.bind_some]
    have go : ∀ n', dag_Least.j1 (k + 1 + 1 + 1) at_ n' (rd at_ i) l (l.length : Int) (i : Int) x.f0 x.f1 x.f2 x.f3 x.f4 x.f5 (J24 l i).f0 (J24 l i).f1 (J24 l i).f2 (J24 l i).f3 (J24 l i).f4 (J24 l i).f5 = some (lastUp l at_ x d (i + 1) (step3 x (J24 l i) (rd at_ i) (step2 x (J24 l i) (rd at_ i) n'))) := fun n' => by
      rw [own_j1 (by omega) x _ hx hy at_ l n' _ _ i (by omega)]; exact own_last l hl ho x hx at_ ha d k (i + 1) _ (by omega) (by omega)
    show _ = some (lastUp l at_ x d (i + 1) (step3 x (J24 l i) (rd at_ i) (step2 x (J24 l i) (rd at_ i) (step1 x (J24 l i) (rd at_ i) n)))); unfold step1
    cases rdsP x (J24 l i) with
    | false => rw [if_neg (by decide), if_neg (by decide)]; exact go n
    | true => rw [if_pos rfl, if_pos rfl, late_eq (by omega) _ hy.1 hy.2, Option.bind_some]; exact go _
theorem least_eq {k : Nat} (l : List S24) (hl : l.length ≤ 1000) (ho : okL l) (x : S24) (hx : 0 ≤ x.f0 ∧ x.f0 ≤ 33) (at_ : List Int) (ha : at_.length = l.length) (hk : 5000 ≤ k) : dag_Least.f k l x.f0 x.f1 x.f2 x.f3 x.f4 x.f5 at_ = some (lastOf l x at_) := by
  unfold dag_Least.f lastOf
  by_cases h : x.f0 = 0
  · rw [if_pos h, if_pos h]
  · rw [if_neg h, if_neg h]; exact own_last l hl ho x hx at_ ha l.length k 0 0 (by omega) (by omega)
end
section
theorem cyc_in {l : List S24} (ho : okA l) (hn : l.length ≤ 200) (i : Nat) (hi : i < l.length) : (0 ≤ rd (cycF l).at_ i ∧ rd (cycF l).at_ i ≤ 799) ∧ 0 ≤ rd (cycF l).sl i ∧ rd (cycF l).sl i ≤ 3 := by
  obtain ⟨h0, hg⟩ := cycF_ends ho; have h1 := hg.left; have h2 := open_none (cycF l).at_ (by omega) i (by rw [hg.len]; exact hi); have h3 := (hg.up i hi).2; exact ⟨⟨h2, by omega⟩, hg.slots i hi⟩
theorem cyc_len {l : List S24} (ho : okA l) : (cycF l).at_.length = l.length ∧ (cycF l).sl.length = l.length := ⟨(cycF_ends ho).2.len, (cycF_ends ho).2.len2⟩
theorem mx_ge (a b : Int) : a ≤ mx a b ∧ b ≤ mx a b ∧ (mx a b = a ∨ mx a b = b) := by unfold mx; split <;> omega
section
variable (x : S24) (l : List S24) (at_ : List Int)
theorem steps_bd (y : S24) (c n : Int) (h0 : 0 ≤ c) (h1 : c ≤ 799) (n0 : 0 ≤ n) (n1 : n ≤ 900) :
    (n ≤ step3 x y c (step2 x y c (step1 x y c n)) ∧ step3 x y c (step2 x y c (step1 x y c n)) ≤ 900) ∧ (x.f0 = 33 → c + 1 ≤ step3 x y c (step2 x y c (step1 x y c n))) ∧ (x.f0 ≠ 33 → c - 2 ≤ step3 x y c (step2 x y c (step1 x y c n))) := by
  have hl := late_range y.f0
  have a1 : n ≤ step1 x y c n ∧ step1 x y c n ≤ 900 := by
    unfold step1; rw [wrapS _ (by omega) (by omega)]; split
    · have := mx_ge n (c + lateOp y.f0); omega
    · omega
  generalize step1 x y c n = m1 at a1
  have a2 : m1 ≤ step2 x y c m1 ∧ step2 x y c m1 ≤ 900 ∧ (x.f0 = 33 → c + 1 ≤ step2 x y c m1) := by
    unfold step2; rw [wrapS _ (by omega) (by omega)]; split
    · have := mx_ge m1 (c + 1); omega
    · rename_i h
      exact ⟨by omega, by omega, fun e => absurd (by rw [e]; rfl) h⟩
  generalize step2 x y c m1 = m2 at a2; unfold step3; rw [wrapS (c - 2) (by omega) (by omega), wrapS (c + lateOp y.f0) (by omega) (by omega), wrapS (c + lateOp y.f0 - 2) (by omega) (by omega), wrapS (c + lateOp y.f0 - 2 - 1) (by omega) (by omega)]; split
  · rename_i h
    have := a2.2.2 h; exact ⟨⟨by omega, by omega⟩, fun _ => this, fun hn => absurd h hn⟩
  · have h1 := mx_ge m2 (c - 2); have h2 := mx_ge (mx m2 (c - 2)) (c + lateOp y.f0 - 2 - 1); exact ⟨⟨by omega, by omega⟩, fun h => by contradiction, fun _ => by omega⟩
theorem lastUp_bd (hat : ∀ i : Nat, i < l.length → 0 ≤ rd at_ i ∧ rd at_ i ≤ 799) : ∀ (d i : Nat) (n : Int), i + d = l.length → 0 ≤ n → n ≤ 900 → (n ≤ lastUp l at_ x d i n ∧ lastUp l at_ x d i n ≤ 900) ∧
    ∀ j : Nat, i ≤ j → j < l.length → (x.f0 = 33 → rd at_ j + 1 ≤ lastUp l at_ x d i n) ∧ (x.f0 ≠ 33 → rd at_ j - 2 ≤ lastUp l at_ x d i n)
  | 0, i, n, hi, n0, n1 => ⟨⟨Int.le_refl _, n1⟩, fun j h1 h2 => by omega⟩
  | d + 1, i, n, hi, n0, n1 => by
    have hc := hat i (by omega); have hs := steps_bd x (J24 l i) (rd at_ i) n hc.1 hc.2 n0 n1; have ih := lastUp_bd hat d (i + 1) _ (by omega) (by omega) hs.1.2; rw [lastUp]; refine ⟨⟨by omega, ih.1.2⟩, fun j h1 h2 => ?_⟩
    by_cases e : j = i
    · subst e; exact ⟨fun h => by have := hs.2.1 h; omega, fun h => by have := hs.2.2 h; omega⟩
    · exact ih.2 j (by omega) h2
theorem lastOf_bd (hat : ∀ i : Nat, i < l.length → 0 ≤ rd at_ i ∧ rd at_ i ≤ 799) : 0 ≤ lastOf l x at_ ∧ lastOf l x at_ ≤ 900 := by
  unfold lastOf; split
  · omega
  · have := (lastUp_bd x l at_ hat l.length 0 0 (by omega) (by omega) (by omega)).1; omega
theorem lastOf_ge (hx : x.f0 ≠ 0) (hat : ∀ i : Nat, i < l.length → 0 ≤ rd at_ i ∧ rd at_ i ≤ 799) (j : Nat) (hj : j < l.length) : (x.f0 = 33 → rd at_ j + 1 ≤ lastOf l x at_) ∧ (x.f0 ≠ 33 → rd at_ j - 2 ≤ lastOf l x at_) := by
  unfold lastOf; rw [if_neg hx]; exact (lastUp_bd x l at_ hat l.length 0 0 (by omega) (by omega) (by omega)).2 j (by omega) hj
theorem longUp_bd (hat : ∀ i : Nat, i < l.length → 0 ≤ rd at_ i ∧ rd at_ i ≤ 799) : ∀ n, n ≤ l.length → 0 ≤ longUp l at_ n ∧ longUp l at_ n ≤ 900 ∧ ∀ j : Nat, j < n → rd at_ j + lateOp (J24 l j).f0 ≤ longUp l at_ n
  | 0, _ => ⟨Int.le_refl _, by simp [longUp], fun j h => absurd h (Nat.not_lt_zero _)⟩
  | n + 1, hn => by
    have ih := longUp_bd hat n (by omega); have hc := hat n (by omega); have hl := late_range (J24 l n).f0; rw [longUp, wrapS _ (by omega) (by omega)]; have hm := mx_ge (longUp l at_ n) (rd at_ n + lateOp (J24 l n).f0); refine ⟨by omega, by omega, fun j hj => ?_⟩
    by_cases e : j = n
    · subst e; omega
    · have := ih.2.2 j (by omega); omega
end
theorem takenUp_mem (at_ sl : List Int) (c s : Int) : ∀ n, takenUp at_ sl c s n = true → ∃ j : Nat, j < n ∧ rd at_ j = c ∧ rd sl j = s
  | 0, h => by simp [takenUp] at h
  | n + 1, h => by
    rw [takenUp, Bool.or_eq_true] at h; rcases h with h | h
    · obtain ⟨j, h1, h2⟩ := takenUp_mem at_ sl c s n h; exact ⟨j, by omega, h2⟩
    · simp only [Bool.and_eq_true, beq_iff_eq] at h; exact ⟨n, by omega, h⟩
theorem freeFrom_ge (at_ sl : List Int) (n : Nat) : ∀ (f : Nat) (c : Int), c ≤ freeFrom at_ sl n f c ∧ freeFrom at_ sl n f c ≤ c + f
  | 0, c => by rw [freeFrom]; omega
  | f + 1, c => by
    rw [freeFrom]; split
    · have := freeFrom_ge at_ sl n f (c + 1); omega
    · omega
theorem freeFrom_free (at_ sl : List Int) (n : Nat) (M : Int) (hM : ∀ i : Nat, i < n → rd at_ i ≤ M) : ∀ (f : Nat) (c : Int), M < c + f → takenUp at_ sl (freeFrom at_ sl n f c) 0 n = false
  | 0, c, h => by
    rw [freeFrom]
    cases ht : takenUp at_ sl c 0 n with
    | false => rfl
    | true =>
      obtain ⟨j, h1, h2, _⟩ := takenUp_mem _ _ _ _ _ ht; have := hM j h1
      omega
  | f + 1, c, h => by
    rw [freeFrom]; split
    · exact freeFrom_free at_ sl n M hM f (c + 1) (by omega)
    · rename_i ht
      simpa using ht
def endC (l : List S24) (x : S24) : Int × Int :=
  if x.f0 = 0 then (-1, longUp l (cycF l).at_ l.length) else (freeFrom (cycF l).at_ (cycF l).sl l.length 1000 (lastOf l x (cycF l).at_),
    if x.f0 = 33 then freeFrom (cycF l).at_ (cycF l).sl l.length 1000 (lastOf l x (cycF l).at_) + 1 else freeFrom (cycF l).at_ (cycF l).sl l.length 1000 (lastOf l x (cycF l).at_) + 1 + 2)
theorem endC_bd {l : List S24} (ho : okA l) (hn : l.length ≤ 200) (x : S24) : 0 ≤ (endC l x).2 ∧ (endC l x).2 ≤ 2000 ∧ (endC l x).1 < (endC l x).2 ∧ (x.f0 ≠ 0 → 0 ≤ (endC l x).1) ∧ ∀ j : Nat, j < l.length → rd (cycF l).at_ j < (endC l x).2 := by
  have hat : ∀ i : Nat, i < l.length → 0 ≤ rd (cycF l).at_ i ∧ rd (cycF l).at_ i ≤ 799 := fun i hi => (cyc_in ho hn i hi).1; unfold endC
  by_cases h : x.f0 = 0
  · rw [if_pos h]; have h1 := longUp_bd l (cycF l).at_ hat l.length (Nat.le_refl _); refine ⟨h1.1, by show longUp _ _ _ ≤ 2000; omega, by show (-1 : Int) < longUp _ _ _; omega, fun hx => absurd h hx, fun j hj => ?_⟩; have h2 := h1.2.2 j hj; have h3 := late_range (J24 l j).f0; show _ < longUp _ _ _; omega
  · rw [if_neg h]; have h1 := lastOf_bd x l (cycF l).at_ hat; have h2 := freeFrom_ge (cycF l).at_ (cycF l).sl l.length 1000 (lastOf l x (cycF l).at_); have h3 := lastOf_ge x l (cycF l).at_ h hat; generalize freeFrom (cycF l).at_ (cycF l).sl l.length 1000 (lastOf l x (cycF l).at_) = t at h2
    by_cases h33 : x.f0 = 33
    · simp only [if_pos h33]; exact ⟨by omega, by omega, by omega, fun _ => by omega, fun j hj => by have := (h3 j hj).1 h33; omega⟩
    · simp only [if_neg h33]; exact ⟨by omega, by omega, by omega, fun _ => by omega, fun j hj => by have := (h3 j hj).2 h33; omega⟩
def put81 (b : S62) (s : Int) (x : S24) : S62 := if s = 0 then ⟨x, b.f1, b.f2, b.f3⟩ else if s = 1 then ⟨b.f0, x, b.f2, b.f3⟩ else if s = 2 then ⟨b.f0, b.f1, x, b.f3⟩ else ⟨b.f0, b.f1, b.f2, x⟩
def bunUp (l : List S24) (at_ sl : List Int) (c : List S62) : Nat → List S62
  | 0 => c
  | i + 1 => (bunUp l at_ sl c i).set (rd at_ i).toNat (put81 (J62 (bunUp l at_ sl c i) (rd at_ i)) (rd sl i) (J24 l i))
theorem bunUp_len (l : List S24) (at_ sl : List Int) (c : List S62) : ∀ i, (bunUp l at_ sl c i).length = c.length
  | 0 => rfl
  | i + 1 => by rw [bunUp, List.length_set, bunUp_len l at_ sl c i]
def bunAll (l : List S24) (x : S24) : List S62 := bunUp l (cycF l).at_ (cycF l).sl (List.replicate (endC l x).2.toNat z62) l.length
def bunF (l : List S24) (x : S24) : List S62 := if 0 ≤ (endC l x).1 then (bunAll l x).set (endC l x).1.toNat (put81 (J62 (bunAll l x) (endC l x).1) 0 x) else bunAll l x
theorem bunAll_len (l : List S24) (x : S24) : (bunAll l x).length = (endC l x).2.toNat := by unfold bunAll; rw [bunUp_len]; simp
end
section
def eqbun76.T6 : Bool × List (List Nat × List Nat) := (true, [([], []), ([], []), ([0, 1], [0, 1]), ([2], [2]), ([], []), ([], []), ([4, 5], [4, 5]), ([6], [6]), ([3, 7], [3, 7])])
def eqbun76.B6 : List Nat := [0, 0, 3, 7, 0, 0, 48, 112, 255]
theorem eqbun76.tab6 : rtab .any (opsOf Tryz.f15 6) = eqbun76.T6 := by kernel_rfl
theorem eqbun76.bits6 : waitsOk eqbun76.T6.2 eqbun76.B6 = true := by kernel_rfl
def insC (x : S24) : List Value := [.int .i64 x.f0, .int .i64 x.f1, .int .i64 x.f2, .int .i64 x.f3, .int .i64 x.f4, .string x.f5]
def bunC (b : S62) : List Value := insC b.f0 ++ (insC b.f1 ++ (insC b.f2 ++ insC b.f3))
def eqI (x y : S24) : Bool := x.f0 == y.f0 && (x.f1 == y.f1 && (x.f2 == y.f2 && (x.f3 == y.f3 && (x.f4 == y.f4 && (x.f5.toList == y.f5.toList)))))
def eqB (x y : S62) : Bool := eqI x.f0 y.f0 && (eqI x.f1 y.f1 && (eqI x.f2 y.f2 && eqI x.f3 y.f3))
theorem eqI_cons {P : Program} {d : Nat} {e : TypeId} {c j : Nat} {is : List Nat} {xs ys : Array Value} {a b : Value} {r s : Bool} {w : World} (ha : (part e xs (j * c)).run P w = .ok a w) (hb : (part e ys (j * c)).run P w = .ok b w) (he : (Op.equalIn d e a b).run P w = .ok r w) (hr : (Op.eqItems d e c xs ys is).run P w = .ok s w) : (Op.eqItems d e c xs ys (j :: is)).run P w = .ok (r && s) w := by
  simp only [Op.eqItems, Sem.run_bind, ha, hb, he, Result.andThen_ok]
  cases r
  · simp
  · simpa using hr
theorem eqI_last {P : Program} {d : Nat} {e : TypeId} {c j : Nat} {xs ys : Array Value} {a b : Value} {r : Bool} {w : World} (ha : (part e xs (j * c)).run P w = .ok a w) (hb : (part e ys (j * c)).run P w = .ok b w) (he : (Op.equalIn d e a b).run P w = .ok r w) : (Op.eqItems d e c xs ys [j]).run P w = .ok r w := by
  have h := eqI_cons (is := []) (s := true) ha hb he (by simp [Op.eqItems])
  rwa [Bool.and_true] at h
theorem eqA62 (d : Nat) (w : World) (x y : S62) : (Op.equalIn (d + 3) 62 (.agg (bunC x).toArray) (.agg (bunC y).toArray)).run Tryz.prog w = .ok (eqB x y) w := by
  obtain ⟨i24, hi24, _⟩ := Option.map_eq_some_iff.1 info24; refine (run_equalIn_array (P := Tryz.prog) w (d + 2) _ _ Tryz.underlying62 hi24).trans ?_; rw [show Tryz.prog.cellsOf 24 = 6 by kernel_rfl, show List.range 4 = [0, 1, 2, 3] from rfl]; unfold bunC insC eqB eqI; refine eqI_cons (by go_simp) (by go_simp) (eqA24 d w _ _ _ _ _ _ _ _ _ _ _ _) ?_; refine eqI_cons (by go_simp) (by go_simp) (eqA24 d w _ _ _ _ _ _ _ _ _ _ _ _) ?_; refine eqI_cons (by go_simp) (by go_simp) (eqA24 d w _ _ _ _ _ _ _ _ _ _ _ _) ?_; exact eqI_last (by go_simp) (by go_simp) (eqA24 d w _ _ _ _ _ _ _ _ _ _ _ _)
theorem run_neq81 (x y : S62) (w : World) : (Go.binOp .neq 62 (.agg (bunC x).toArray) (.agg (bunC y).toArray)).run Tryz.prog w = .ok (.bool (!eqB x y)) w := by
  have h2 : (Op.equal 62 (.agg (bunC x).toArray) (.agg (bunC y).toArray)).run Tryz.prog w = .ok (eqB x y) w := eqA62 9997 w x y; generalize bunC x = X at h2 ⊢; generalize bunC y = Y at h2 ⊢; simp [Go.binOp, h2, Result.andThen]
theorem info62 : (Tryz.prog.info? 62).map (fun i => (i.zero, i.size, i.bytes)) = some (some (.agg #[(.int .i64 0), (.int .i64 0), (.int .i64 0), (.int .i64 0), (.int .i64 0), (.string ⟨#[]⟩), (.int .i64 0), (.int .i64 0), (.int .i64 0), (.int .i64 0), (.int .i64 0), (.string ⟨#[]⟩), (.int .i64 0), (.int .i64 0), (.int .i64 0), (.int .i64 0), (.int .i64 0), (.string ⟨#[]⟩), (.int .i64 0), (.int .i64 0), (.int .i64 0), (.int .i64 0), (.int .i64 0), (.string ⟨#[]⟩)]), 24, 224) := by kernel_rfl
theorem run_load62 {w : World} {ad : Addr} {n : Nat} {xs : List S62} (h : Kd.C k62 w (some ad) n xs) (i : Nat) (hi : i < n) : (Instr.loadAt 62 (.pointer (some (ad.add (i * 24))))).run Tryz.prog w = .ok (.agg (bunC (J62 xs i)).toArray) w := by
  obtain ⟨ad', c, e, hcl, hK, hc⟩ := Kd.C_get h z62 (i : Int) (Int.natCast_nonneg _) (by omega); obtain rfl := Option.some.inj e; rw [Int.toNat_natCast, show k62.sz = 24 from rfl] at hc; have hb : xs.getD (i : Int).toNat z62 = J62 xs i := rfl; rw [hb] at hK; obtain rfl := k62_open hK; have hl := run_loadCells_list (P := Tryz.prog) w (ad.add (i * 24)) (bunC (J62 xs i)) (fun j v hv => by rw [add_add]; exact hc j v hv); obtain ⟨i0, hi0, hz⟩ := Option.map_eq_some_iff.1 info62; simp only [Prod.mk.injEq] at hz; have hl2 : (loadCells (ad.add (i * 24)) 24).run Tryz.prog w = .ok (bunC (J62 xs i)).toArray w := hl; clear hl hc hK; generalize bunC (J62 xs i) = X at hl2 ⊢; simp [Instr.loadAt, Instr.sureAddr, loadVar, isAgg, sizeOf, typeInfo, run_underlying Tryz.underlying62, hi0, hz.2.1, hl2, Result.andThen]
def eqBs (a b : List S62) : Nat → Bool
  | 0 => true
  | n + 1 => eqBs a b n && eqB (J62 a n) (J62 b n)
theorem eqBs_le (a b : List S62) (m : Nat) : ∀ n, m ≤ n → eqBs a b n = true → eqBs a b m = true
  | 0, h, _ => by rw [show m = 0 by omega]; rfl
  | n + 1, h, he => by
    by_cases e : m = n + 1
    · rw [e]; exact he
    · rw [eqBs, Bool.and_eq_true] at he; exact eqBs_le a b m n (by omega) he.1
def r0_EqBundles.f (k : Nat) (a b : List S62) : Option Bool := if a.length ≤ 1000000000 then some (decide (a.length = b.length) && eqBs a b a.length) else none
theorem r0_EqBundles.calls (k : Nat) (A0 : Option Addr) (c0 : Nat) (l0 : List S62) (A1 : Option Addr) (c1 : Nat) (l1 : List S62) (r : Bool) (w : World) (hr0 : Kd.C k62 w A0 l0.length l0) (hc0 : l0.length ≤ c0) (hr1 : Kd.C k62 w A1 l1.length l1) (hc1 : l1.length ≤ c1) (h : r0_EqBundles.f k l0 l1 = some r) :
    Calls Tryz.prog 15 #[.slice A0 l0.length c0, .slice A1 l1.length c1] w fun e w' => e = .returned (.bool r) ∧ Dr_ w w' := by
  unfold r0_EqBundles.f at h; split at h
  · rename_i hmx
    have h := Option.some.inj h; have H0 := aM_ hr0; have H1 := aM_ hr1; clear hr0 hr1
    by_cases hl : l0.length = l1.length
    · have c2 : ((l0.length : Int) == (l1.length : Int)) = true := by rw [hl]; simp
      have c3 : ((l0.length : Int) != (l1.length : Int)) = false := by rw [hl]; simp
      have c4 : (l0.length == l1.length) = true := by simpa using hl
      rw [decide_eq_true hl, Bool.true_and] at h; have HL := aM_ hl; have HR := aM_ h; clear hl h; go_enter Tryz.func15, Tryz.ntmps15; go_wp2
      go_loopw [5] (fun i wr => ∃ j : Nat, j ≤ l0.length ∧ i = .int .i64 j ∧ As_ (eqBs l0 l1 j = true) ∧ Dr_ w wr) (fun i _ => l0.length - (intOf i).toNat)
      case atStart => exact ⟨0, Nat.zero_le _, rfl, ⟨rfl⟩, Dr_.refl _⟩
      case round =>
        obtain ⟨j, hj, rfl, HE, ⟨m, rfl⟩⟩ := hrel
        by_cases hlt : j < l0.length
        · have hC0 := Kd.C_below H0.out (bN_ (Below.refl _ _) (m + 1)); have hC1 := Kd.C_below H1.out (bN_ (Below.refl _ _) (m + 1)); obtain ⟨a0, e0, _⟩ := at_T62 H0.out (j : Int) (Int.natCast_nonneg _) (by omega); obtain ⟨a1, e1, _⟩ := at_T62 H1.out (j : Int) (Int.natCast_nonneg _) (by have := HL.out; omega); subst e0; subst e1; have p1 : ((0 : Int) ≤ (j : Int)) = True := eq_true (Int.natCast_nonneg _); have q1 : ((j : Int) < (l0.length : Int)) = True := eq_true (by omega); have q2 : ((j : Int) < (l1.length : Int)) = True := eq_true (by have := HL.out; omega); have hw2 : wrap64 ((j : Int) + 1) = ((j + 1 : Nat) : Int) := by unfold wrap64; omega
          go_wp2; refine start_ (n := 9) (S := fun w' => Kd.C k62 w' (some a0) l0.length l0 ∧ Kd.C k62 w' (some a1) l1.length l1) (ds := []) (bm 9 0) (by kernel_rfl) rfl (by kernel_rfl) ⟨hC0, hC1⟩ (fun hHeld => ?_); refine with_tabW eqbun76.tab6 eqbun76.bits6 (fun HT_ HW_ => ?_); refine sq_ (k := 0) [(0, some 17, false), (1, some 18, false), (2, some 19, false), (3, some 20, true), (4, some 21, false), (5, some 22, false), (6, some 23, false), (7, some 24, true), (8, some 25, false)] (bm 9 511) rfl (sq_of HT_.out HW_.out (by kernel_rfl)) (fun _ _ _ _ _ h => h) hHeld ?_
          iterate 3 (refine SqOn.pure (v := ?_) (a' := ?_) rfl rfl (Or.inl ⟨by kernel_rfl, ?_⟩) ?_ ?_; rotate_left 2; (focus (intro w'; go_simp; with_reducible rfl)); (focus exact pU_))
          refine SqOn.take (v := .agg (bunC (J62 l0 j)).toArray) (a' := ?_) rfl rfl (Or.inl ⟨by kernel_rfl, ?_⟩) ?_ ?_; rotate_left
          · rintro w' ⟨s0, s1⟩; have h_ := run_load62 s0 j hlt; generalize bunC (J62 l0 j) = X at h_ ⊢; simp [execOp, Act.eval, h_, Result.andThen]
          · first | (simp only [Act.put, List.setIfInBounds_toArray, List.set_cons_zero, List.set_cons_succ, i64_w, i32_w]; rfl) | rfl
          iterate 3 (refine SqOn.pure (v := ?_) (a' := ?_) rfl rfl (Or.inl ⟨by kernel_rfl, ?_⟩) ?_ ?_; rotate_left 2; (focus (intro w'; go_simp; with_reducible rfl)); (focus exact pU_))
          refine SqOn.take (v := .agg (bunC (J62 l1 j)).toArray) (a' := ?_) rfl rfl (Or.inl ⟨by kernel_rfl, ?_⟩) ?_ ?_; rotate_left
          · rintro w' ⟨s0, s1⟩; have h_ := run_load62 s1 j (by have := HL.out; omega); generalize bunC (J62 l1 j) = X at h_ ⊢; simp [execOp, Act.eval, h_, Result.andThen]
          · first | (simp only [Act.put, List.setIfInBounds_toArray, List.set_cons_zero, List.set_cons_succ, i64_w, i32_w]; rfl) | rfl
          refine SqOn.pure (v := .bool (!eqB (J62 l0 j) (J62 l1 j))) (a' := ?_) rfl rfl (Or.inl ⟨by kernel_rfl, ?_⟩) ?_ ?_; rotate_left
          · intro w'; have h_ := run_neq81 (J62 l0 j) (J62 l1 j) w'; generalize bunC (J62 l0 j) = X at h_ ⊢; generalize bunC (J62 l1 j) = Y at h_ ⊢
            have hg_ : (eqGuard BinOp.neq 62 (.tmp 20) (.tmp 24) (.agg X.toArray) (.agg Y.toArray)).run Tryz.prog w' = .ok () w' := by
              have hk : Tryz.prog.eqGuardType Tryz.prog.depth 62 = false := by kernel_rfl
              simp [eqGuard, hk, Result.andThen]
            simp [execOp, Act.eval, h_, hg_, Result.andThen]
          · first | (simp only [Act.put, List.setIfInBounds_toArray, List.set_cons_zero, List.set_cons_succ, i64_w, i32_w]; rfl) | rfl
          refine SqOn.nil ?_; refine done_ (done_of HT_.out (by kernel_rfl)) ?_; clear HT_ HW_ hHeld hC0 hC1
          cases hb : eqB (J62 l0 j) (J62 l1 j) with
          | true =>
            go_wp2; refine ⟨⟨j + 1, by omega, by congr 1, ⟨by rw [eqBs, HE.out, hb]; rfl⟩, (⟨⟨m, rfl⟩⟩ : Dr_ w (w.drewN m)).step 1⟩, ?_⟩; simp [intOf]
            omega
          | false =>
            go_wp2; go_ret; refine ⟨?_, (⟨⟨m, rfl⟩⟩ : Dr_ w (w.drewN m)).step 1⟩
            have hf : eqBs l0 l1 l0.length = false := by
              cases hx : eqBs l0 l1 l0.length with
              | false => rfl
              | true =>
                have h2 := eqBs_le l0 l1 (j + 1) l0.length hlt hx; rw [eqBs, hb, Bool.and_false] at h2; exact h2.symm
            rw [← HR.out, hf]; rfl
        · obtain rfl : j = l0.length := by omega
          have q1 : ((l0.length : Int) < (l0.length : Int)) = False := eq_false (by omega); go_wp2; go_ret; exact ⟨by rw [← HR.out, HE.out]; rfl, ⟨⟨m, rfl⟩⟩⟩
    · have c2 : ((l0.length : Int) == (l1.length : Int)) = false := by simp; omega
      have c3 : ((l0.length : Int) != (l1.length : Int)) = true := by simp; omega
      have c4 : (l0.length == l1.length) = false := by simpa using hl
      rw [decide_eq_false hl, Bool.false_and] at h; subst h; clear hl; go_enter Tryz.func15, Tryz.ntmps15; go_wp2; go_ret; exact ⟨rfl, Dr_.refl _⟩
  · exact absurd h (by simp)
end
end Go.Proofs.YtibfkkjkahpobaaGreat.PDag
