import Derived.Test.YtibfkkjkahpobaaMx15
import Derived.Test.YtibfkkjkahpobaaMx21
import Derived.Test.YtibfkkjkahpobaaMx16
import Derived.Test.YtibfkkjkahpobaaMx31
import Derived.Test.YtibfkkjkahpobaaMx27
import Derived.Test.YtibfkkjkahpobaaMx30
import Derived.Test.YtibfkkjkahpobaaMx28
import Derived.Test.YtibfkkjkahpobaaMx26
import Derived.ChangeKeysEq
import Derived.Deep.MidRow
set_option linter.unusedVariables false
set_option linter.unusedSimpArgs false
set_option maxHeartbeats 8000000
set_option maxRecDepth 100000
open Go.RowKit Go.Proofs.YtibfkkjkahpobaaW.PrintWords Go.Proofs.YtibfkkjkahpobaaW.PrintLast Go.Proofs.YtibfkkjkahpobaaW.PrintMore
namespace Go.Proofs.Ytibfkkjkahpobaa.PDag
section
attribute [local go_sem] max2_int min2_int max_two min_two max_three min_three max_four min_four
mutual
def r13_Last.l0 : Nat → List (S24) → List Int → Int → Bool → Int → Int → Int → Int → Int → Int → ByteArray → Option (Int)
  | 0, _, _, _, _, _, _, _, _, _, _, _ => none
  | k + 1, x0, x2, x7, x8, x9, x489a, x489b, x489c, x489d, x489e, x489f => if x9 < (x0.length : Int) then (if 0 ≤ x9 then (if x9 < (x2.length : Int) then ((r3_Latency.f k ((q24 x0 x9).f0)).bind fun t491 => ((r3_Writes.f ((q24 x0 x9).f0) ((q24 x0 x9).f1) ((q24 x0 x9).f2) ((q24 x0 x9).f3) ((q24 x0 x9).f4) ((q24 x0 x9).f5)).bind fun t493 => (if t493 ≥ 0 then ((r3_Reads.f k x489a x489b x489c x489d x489e x489f).bind fun t494 => ((r0_In.f k t494 t493).bind fun t497 => (r13_Last.j1 k x0 x2 x7 x8 x9 (rd x2 x9) t491 (decide (t497 ≥ 0)) x489a x489b x489c x489d x489e x489f))) else (r13_Last.j1 k x0 x2 x7 x8 x9 (rd x2 x9) t491 false x489a x489b x489c x489d x489e x489f)))) else (none)) else (none)) else (some x7)
def r13_Last.j1 : Nat → List (S24) → List Int → Int → Bool → Int → Int → Int → Bool → Int → Int → Int → Int → Int → ByteArray → Option (Int)
  | 0, _, _, _, _, _, _, _, _, _, _, _, _, _, _ => none
  | k + 1, x0, x2, x7, x8, x9, x10, x11, x48, x489a, x489b, x489c, x489d, x489e, x489f => if x48 = true then (r13_Last.j2 k x0 x2 (mx x7 (wrap64 (x10 + x11))) x8 x9 x10 x11 x489a x489b x489c x489d x489e x489f) else (r13_Last.j2 k x0 x2 x7 x8 x9 x10 x11 x489a x489b x489c x489d x489e x489f)
def r13_Last.j2 : Nat → List (S24) → List Int → Int → Bool → Int → Int → Int → Int → Int → Int → Int → Int → ByteArray → Option (Int)
  | 0, _, _, _, _, _, _, _, _, _, _, _, _, _ => none
  | k + 1, x0, x2, x7, x8, x9, x10, x11, x489a, x489b, x489c, x489d, x489e, x489f => if x8 = true then (r13_Last.j3 k x0 x2 x7 x8 x9 x10 x11 true x489a x489b x489c x489d x489e x489f) else ((r3_Effect.f x489a).bind fun t498 => (if t498 = true then (if 0 ≤ x9 then (if x9 < (x0.length : Int) then ((r3_Effect.f ((q24 x0 x9).f0)).bind fun t500 => (r13_Last.j3 k x0 x2 x7 x8 x9 x10 x11 t500 x489a x489b x489c x489d x489e x489f)) else (none)) else (none)) else (r13_Last.j3 k x0 x2 x7 x8 x9 x10 x11 false x489a x489b x489c x489d x489e x489f)))
def r13_Last.j3 : Nat → List (S24) → List Int → Int → Bool → Int → Int → Int → Bool → Int → Int → Int → Int → Int → ByteArray → Option (Int)
  | 0, _, _, _, _, _, _, _, _, _, _, _, _, _, _ => none
  | k + 1, x0, x2, x7, x8, x9, x10, x11, x67, x489a, x489b, x489c, x489d, x489e, x489f => if x67 = true then (r13_Last.j4 k x0 x2 (mx x7 (wrap64 (x10 + 1))) x8 x9 x10 x11 x489a x489b x489c x489d x489e x489f) else (r13_Last.j4 k x0 x2 x7 x8 x9 x10 x11 x489a x489b x489c x489d x489e x489f)
def r13_Last.j4 : Nat → List (S24) → List Int → Int → Bool → Int → Int → Int → Int → Int → Int → Int → Int → ByteArray → Option (Int)
  | 0, _, _, _, _, _, _, _, _, _, _, _, _, _ => none
  | k + 1, x0, x2, x7, x8, x9, x10, x11, x489a, x489b, x489c, x489d, x489e, x489f => if x8 = true then (r13_Last.l0 k x0 x2 x7 x8 (wrap64 (x9 + 1)) x489a x489b x489c x489d x489e x489f) else (r13_Last.l0 k x0 x2 (mx (mx x7 (wrap64 (x10 - 2))) (wrap64 ((wrap64 ((wrap64 (x10 + x11)) - 2)) - 1))) x8 (wrap64 (x9 + 1)) x489a x489b x489c x489d x489e x489f)
end
def r13_Last.f (k : Nat) (l0 : List (S24)) (a1_0 : Int) (a1_1 : Int) (a1_2 : Int) (a1_3 : Int) (a1_4 : Int) (a1_5 : ByteArray) (l2 : List Int) : Option (Int) := if a1_0 = 0 then (some 0) else (r13_Last.l0 k l0 l2 0 (a1_0 == 33) 0 a1_0 a1_1 a1_2 a1_3 a1_4 a1_5)
theorem r13_Last.calls (k : Nat) (A0 : Option Addr) (c0 : Nat) (l0 : List (S24)) (a1_0 : Int) (a1_1 : Int) (a1_2 : Int) (a1_3 : Int) (a1_4 : Int) (a1_5 : ByteArray) (A2 : Option Addr) (c2 : Nat) (l2 : List Int) (r : Int) (w : World) (hr0 : Kd.C k24 w A0 l0.length l0) (hc0 : l0.length ≤ c0) (hr2 : Kd.C (Kd.int .i64) w A2 l2.length l2) (hc2 : l2.length ≤ c2) (h : r13_Last.f k l0 a1_0 a1_1 a1_2 a1_3 a1_4 a1_5 l2 = some r) :
    Calls Try.prog 41 #[.slice A0 l0.length c0, .agg #[.int .i64 a1_0, .int .i64 a1_1, .int .i64 a1_2, .int .i64 a1_3, .int .i64 a1_4, .string a1_5], .slice A2 l2.length c2] w fun e w' => e = .returned (.int .i64 r) ∧ Below w.heap.size w w' := by
 have hu24 := Try.underlying24
 have HR0 := aM_ hr0
 have HC0 := aM_ hc0
 clear hr0 hc0
 have HR2 := aM_ hr2
 have HC2 := aM_ hc2
 clear hr2 hc2
 have HB := aM_ (Below.refl w.heap.size w)
 have H : (if a1_0 = 0 then (some 0) else (r13_Last.l0 k l0 l2 0 (a1_0 == 33) 0 a1_0 a1_1 a1_2 a1_3 a1_4 a1_5)) = some r := h
 clear h
 by_cases c4 : a1_0 = 0
 ·rw [if_pos c4] at H
  have c4b0 := bH_ c4
  have c4b1 := bF_ c4
  clear c4
  obtain rfl := oI_ H
  go_enter Try.func41, Try.ntmps41
  go_wp2_with (first | ((with_reducible refine gate_dst (N := 4) rfl ?_); refine bX_ (N := 4) (cs := #[.int .i64 a1_0, .int .i64 a1_1, .int .i64 a1_2, .int .i64 a1_3, .int .i64 a1_4, .string a1_5]) (t := 24) ?_; intro gb488 hg w5 hbox hb; replace BK488 := aM_ (hbox); replace GW488 := aM_ (gE_ hg (bl_ HB)); replace GE488 := aM_ (gE_ hg (bl_ HB)); replace HB := aM_ (bT_ (bl_ HB) hb); clear hb hbox hg; obtain ⟨hcz6_0, hcz6_1, hcz6_2, hcz6_3, hcz6_4, hcz6_5⟩ := cl6_ BK488.out; obtain ⟨hfz6_0, hfz6_1, hfz6_2, hfz6_3, hfz6_4, hfz6_5⟩ := fz6_ BK488.out))
  repeat (go_quiet (first | ((with_reducible refine gate_dst (N := 4) rfl ?_); refine bX_ (N := 4) (cs := #[.int .i64 a1_0, .int .i64 a1_1, .int .i64 a1_2, .int .i64 a1_3, .int .i64 a1_4, .string a1_5]) (t := 24) ?_; intro gb488 hg w5 hbox hb; replace BK488 := aM_ (hbox); replace GW488 := aM_ (gE_ hg (bl_ HB)); replace GE488 := aM_ (gE_ hg (bl_ HB)); replace HB := aM_ (bT_ (bl_ HB) hb); clear hb hbox hg; obtain ⟨hcz6_0, hcz6_1, hcz6_2, hcz6_3, hcz6_4, hcz6_5⟩ := cl6_ BK488.out; obtain ⟨hfz6_0, hfz6_1, hfz6_2, hfz6_3, hfz6_4, hfz6_5⟩ := fz6_ BK488.out)); try go_wp2_with (first | ((with_reducible refine gate_dst (N := 4) rfl ?_); refine bX_ (N := 4) (cs := #[.int .i64 a1_0, .int .i64 a1_1, .int .i64 a1_2, .int .i64 a1_3, .int .i64 a1_4, .string a1_5]) (t := 24) ?_; intro gb488 hg w5 hbox hb; replace BK488 := aM_ (hbox); replace GW488 := aM_ (gE_ hg (bl_ HB)); replace GE488 := aM_ (gE_ hg (bl_ HB)); replace HB := aM_ (bT_ (bl_ HB) hb); clear hb hbox hg; obtain ⟨hcz6_0, hcz6_1, hcz6_2, hcz6_3, hcz6_4, hcz6_5⟩ := cl6_ BK488.out; obtain ⟨hfz6_0, hfz6_1, hfz6_2, hfz6_3, hfz6_4, hfz6_5⟩ := fz6_ BK488.out)))
  go_ret
  exact ⟨eR_, bs_ HB GE488⟩
 rw [if_neg c4] at H
 have c4b0 := bE_ c4
 have c4b1 := bG_ c4
 replace H := aM_ H
 go_enter Try.func41, Try.ntmps41
 go_wp2_with (first | ((with_reducible refine gate_dst (N := 4) rfl ?_); refine bX_ (N := 4) (cs := #[.int .i64 a1_0, .int .i64 a1_1, .int .i64 a1_2, .int .i64 a1_3, .int .i64 a1_4, .string a1_5]) (t := 24) ?_; intro gb488 hg w7 hbox hb; replace BK488 := aM_ (hbox); replace GW488 := aM_ (gE_ hg (bl_ HB)); replace GE488 := aM_ (gE_ hg (bl_ HB)); replace HB := aM_ (bT_ (bl_ HB) hb); clear hb hbox hg; obtain ⟨hcz8_0, hcz8_1, hcz8_2, hcz8_3, hcz8_4, hcz8_5⟩ := cl6_ BK488.out; obtain ⟨hfz8_0, hfz8_1, hfz8_2, hfz8_3, hfz8_4, hfz8_5⟩ := fz6_ BK488.out))
 repeat (go_quiet (first | ((with_reducible refine gate_dst (N := 4) rfl ?_); refine bX_ (N := 4) (cs := #[.int .i64 a1_0, .int .i64 a1_1, .int .i64 a1_2, .int .i64 a1_3, .int .i64 a1_4, .string a1_5]) (t := 24) ?_; intro gb488 hg w7 hbox hb; replace BK488 := aM_ (hbox); replace GW488 := aM_ (gE_ hg (bl_ HB)); replace GE488 := aM_ (gE_ hg (bl_ HB)); replace HB := aM_ (bT_ (bl_ HB) hb); clear hb hbox hg; obtain ⟨hcz8_0, hcz8_1, hcz8_2, hcz8_3, hcz8_4, hcz8_5⟩ := cl6_ BK488.out; obtain ⟨hfz8_0, hfz8_1, hfz8_2, hfz8_3, hfz8_4, hfz8_5⟩ := fz6_ BK488.out)); try go_wp2_with (first | ((with_reducible refine gate_dst (N := 4) rfl ?_); refine bX_ (N := 4) (cs := #[.int .i64 a1_0, .int .i64 a1_1, .int .i64 a1_2, .int .i64 a1_3, .int .i64 a1_4, .string a1_5]) (t := 24) ?_; intro gb488 hg w7 hbox hb; replace BK488 := aM_ (hbox); replace GW488 := aM_ (gE_ hg (bl_ HB)); replace GE488 := aM_ (gE_ hg (bl_ HB)); replace HB := aM_ (bT_ (bl_ HB) hb); clear hb hbox hg; obtain ⟨hcz8_0, hcz8_1, hcz8_2, hcz8_3, hcz8_4, hcz8_5⟩ := cl6_ BK488.out; obtain ⟨hfz8_0, hfz8_1, hfz8_2, hfz8_3, hfz8_4, hfz8_5⟩ := fz6_ BK488.out)))
 go_loopg [7, 9] k (fun kq v7 v9 w' => ∃ (x7_1 : Int) (x9_1 : Int), v7 = .int .i64 x7_1 ∧ v9 = .int .i64 x9_1 ∧ As_ (r13_Last.l0 kq l0 l2 x7_1 (a1_0 == 33) x9_1 a1_0 a1_1 a1_2 a1_3 a1_4 a1_5 = some r) ∧ As_ (kq ≤ k) ∧ As_ (w'.heap[gb488]? = some (.cells #[.int .i64 a1_0, .int .i64 a1_1, .int .i64 a1_2, .int .i64 a1_3, .int .i64 a1_4, .string a1_5] 24 (0, 0))) ∧ As_ (Below w.heap.size w w'))
 case atStart => exact ⟨(0), (0), eQ_, eQ_, H, ⟨Nat.le_refl _⟩, ⟨rB_ BK488⟩, ⟨bs_ HB GE488⟩⟩
 case round =>
  clear H
  obtain ⟨x7_1, x9_1, rfl, rfl, HA, HK1, BK488, HB⟩ := hrel
  cases gk with
  | zero => exact absurd HA.out (by simp [r13_Last.l0])
  | succ k1 =>
   have H := HA.out
   clear HA
   simp only [r13_Last.l0] at H
   by_cases c9 : x9_1 < (l0.length : Int)
   ·rw [if_pos c9] at H
    have c9b0 := dE_ c9
    clear c9
    by_cases c10 : 0 ≤ x9_1
    ·rw [if_pos c10] at H
     have c10b0 := dE_ c10
     clear c10
     by_cases c11 : x9_1 < (l2.length : Int)
     ·rw [if_pos c11] at H
      have c11b0 := dE_ c11
      clear c11
      replace H := oB_ H
      obtain ⟨t491, A12, H⟩ := H
      replace H := oB_ H
      obtain ⟨t493, A13, H⟩ := H
      have HC14 := aM_ H
      clear H
      have p489 : 0 ≤ (x9_1 : Int) := oD_
      have q489 : x9_1 < (l2.length : Int) := oD_
      obtain ⟨ad489, e489, hx489_0⟩ := Kd.at_int HR2.out x9_1 p489 q489
      cases e489
      replace hx489_0 := hC_ HB hx489_0
      replace p489 := eq_true p489
      replace q489 := eq_true q489
      have p490 : 0 ≤ (x9_1 : Int) := oD_
      have q490 : x9_1 < (l0.length : Int) := oD_
      obtain ⟨ad490, e490, hx490_0, hx490_1, hx490_2, hx490_3, hx490_4, hx490_5⟩ := at_T24 HR0.out x9_1 p490 q490
      cases e490
      replace hx490_0 := hC_ HB hx490_0
      replace hx490_1 := hC_ HB hx490_1
      replace hx490_2 := hC_ HB hx490_2
      replace hx490_3 := hC_ HB hx490_3
      replace hx490_4 := hC_ HB hx490_4
      replace hx490_5 := hC_ HB hx490_5
      replace p490 := eq_true p490
      replace q490 := eq_true q490
      go_upto_region 10 with (first | (go_at_call 27; (with_reducible refine (r3_Latency.calls k1 ((q24 l0 x9_1).f0) t491 _ A12.out).mono ?_); rintro e w' ⟨rfl, ⟨nd, rfl⟩⟩; (try first | exact ⟨rfl, _, dN_⟩ | exact ⟨rfl, _, dT_⟩); have p492 : 0 ≤ (x9_1 : Int) := oD_; have q492 : x9_1 < (l0.length : Int) := oD_; obtain ⟨ad492, e492, hx492_0, hx492_1, hx492_2, hx492_3, hx492_4, hx492_5⟩ := at_T24 HR0.out x9_1 p492 q492; obtain rfl : ad490 = ad492 := (by injection e492); replace hx492_0 := hC_ HB hx492_0; replace hx492_1 := hC_ HB hx492_1; replace hx492_2 := hC_ HB hx492_2; replace hx492_3 := hC_ HB hx492_3; replace hx492_4 := hC_ HB hx492_4; replace hx492_5 := hC_ HB hx492_5; replace p492 := eq_true p492; replace q492 := eq_true q492) | (go_at_call 71; (with_reducible refine (r3_Writes.calls ((q24 l0 x9_1).f0) ((q24 l0 x9_1).f1) ((q24 l0 x9_1).f2) ((q24 l0 x9_1).f3) ((q24 l0 x9_1).f4) ((q24 l0 x9_1).f5) t493 _ A13.out).mono ?_); rintro e w15 ⟨rfl, hb⟩; replace BK488 := aM_ (kB_ (rB_ BK488) hb); replace HB := aM_ (bT_ (bs_ HB GE488) hb)))
      repeat (go_quiet (first | (go_at_call 27; (with_reducible refine (r3_Latency.calls k1 ((q24 l0 x9_1).f0) t491 _ A12.out).mono ?_); rintro e w' ⟨rfl, ⟨nd, rfl⟩⟩; (try first | exact ⟨rfl, _, dN_⟩ | exact ⟨rfl, _, dT_⟩); have p492 : 0 ≤ (x9_1 : Int) := oD_; have q492 : x9_1 < (l0.length : Int) := oD_; obtain ⟨ad492, e492, hx492_0, hx492_1, hx492_2, hx492_3, hx492_4, hx492_5⟩ := at_T24 HR0.out x9_1 p492 q492; obtain rfl : ad490 = ad492 := (by injection e492); replace hx492_0 := hC_ HB hx492_0; replace hx492_1 := hC_ HB hx492_1; replace hx492_2 := hC_ HB hx492_2; replace hx492_3 := hC_ HB hx492_3; replace hx492_4 := hC_ HB hx492_4; replace hx492_5 := hC_ HB hx492_5; replace p492 := eq_true p492; replace q492 := eq_true q492) | (go_at_call 71; (with_reducible refine (r3_Writes.calls ((q24 l0 x9_1).f0) ((q24 l0 x9_1).f1) ((q24 l0 x9_1).f2) ((q24 l0 x9_1).f3) ((q24 l0 x9_1).f4) ((q24 l0 x9_1).f5) t493 _ A13.out).mono ?_); rintro e w15 ⟨rfl, hb⟩; replace BK488 := aM_ (kB_ (rB_ BK488) hb); replace HB := aM_ (bT_ (bs_ HB GE488) hb))); go_upto_region 10 with (first | (go_at_call 27; (with_reducible refine (r3_Latency.calls k1 ((q24 l0 x9_1).f0) t491 _ A12.out).mono ?_); rintro e w' ⟨rfl, ⟨nd, rfl⟩⟩; (try first | exact ⟨rfl, _, dN_⟩ | exact ⟨rfl, _, dT_⟩); have p492 : 0 ≤ (x9_1 : Int) := oD_; have q492 : x9_1 < (l0.length : Int) := oD_; obtain ⟨ad492, e492, hx492_0, hx492_1, hx492_2, hx492_3, hx492_4, hx492_5⟩ := at_T24 HR0.out x9_1 p492 q492; obtain rfl : ad490 = ad492 := (by injection e492); replace hx492_0 := hC_ HB hx492_0; replace hx492_1 := hC_ HB hx492_1; replace hx492_2 := hC_ HB hx492_2; replace hx492_3 := hC_ HB hx492_3; replace hx492_4 := hC_ HB hx492_4; replace hx492_5 := hC_ HB hx492_5; replace p492 := eq_true p492; replace q492 := eq_true q492) | (go_at_call 71; (with_reducible refine (r3_Writes.calls ((q24 l0 x9_1).f0) ((q24 l0 x9_1).f1) ((q24 l0 x9_1).f2) ((q24 l0 x9_1).f3) ((q24 l0 x9_1).f4) ((q24 l0 x9_1).f5) t493 _ A13.out).mono ?_); rintro e w15 ⟨rfl, hb⟩; replace BK488 := aM_ (kB_ (rB_ BK488) hb); replace HB := aM_ (bT_ (bs_ HB GE488) hb))))
      (try simp only [Act.put, List.setIfInBounds_toArray, List.set_cons_zero, List.set_cons_succ])
      go_cut [48] (fun v48 wc => ∃ (kq : Nat) (x48_13 : Bool), v48 = .bool x48_13 ∧ As_ (r13_Last.j1 kq l0 l2 x7_1 (a1_0 == 33) x9_1 (rd l2 x9_1) t491 x48_13 a1_0 a1_1 a1_2 a1_3 a1_4 a1_5 = some r) ∧ As_ (kq ≤ k1) ∧ As_ (wc.heap[gb488]? = some (.cells #[.int .i64 a1_0, .int .i64 a1_1, .int .i64 a1_2, .int .i64 a1_3, .int .i64 a1_4, .string a1_5] 24 (0, 0))) ∧ As_ (Below w.heap.size w wc))
      case first =>
       have H := HC14.out
       clear HC14
       by_cases c16 : t493 ≥ 0
       ·rw [if_pos c16] at H
        have c16b0 := dE_ c16
        clear c16
        (first | rw [c16b0] | (simp only [i64_w, i32_w]; rw [c16b0]) | skip)
        replace H := oB_ H
        obtain ⟨t494, A17, H⟩ := H
        replace H := oB_ H
        obtain ⟨t497, A18, H⟩ := H
        replace H := aM_ H
        obtain ⟨hcz19_0, hcz19_1, hcz19_2, hcz19_3, hcz19_4, hcz19_5⟩ := cl6_ BK488.out
        obtain ⟨hfz19_0, hfz19_1, hfz19_2, hfz19_3, hfz19_4, hfz19_5⟩ := fz6_ BK488.out
        go_wp2_with (first | (go_at_call 73; (with_reducible refine (r3_Reads.calls k1 a1_0 a1_1 a1_2 a1_3 a1_4 a1_5 t494 _ A17.out).mono ?_); rintro e w20 ⟨v495, rfl, ho0, hb⟩; replace HO496 := aM_ (Kd.R_lower ho0 (bY_ (bs_ HB GE488))); replace BK488 := aM_ (kB_ (rB_ BK488) hb); replace HB := aM_ (bT_ (bs_ HB GE488) hb); (try clear ho0); obtain ⟨Ao21, co21, eo21⟩ := Kd.R_slice HO496.out; subst eo21) | (go_at_call 72; (with_reducible refine (r0_In.calls k1 _ _ t494 t493 t497 _ ?side1 ?side2 A18.out).mono ?_); (case side1 => exact rC_ (Kd.R_reads' HO496.out).2.2); (case side2 => exact (Kd.R_reads' HO496.out).2.1); rintro e w' ⟨rfl, ⟨nd, rfl⟩⟩; (try first | exact ⟨rfl, _, dN_⟩ | exact ⟨rfl, _, dT_⟩)))
        repeat (go_quiet (first | (go_at_call 73; (with_reducible refine (r3_Reads.calls k1 a1_0 a1_1 a1_2 a1_3 a1_4 a1_5 t494 _ A17.out).mono ?_); rintro e w20 ⟨v495, rfl, ho0, hb⟩; replace HO496 := aM_ (Kd.R_lower ho0 (bY_ (bs_ HB GE488))); replace BK488 := aM_ (kB_ (rB_ BK488) hb); replace HB := aM_ (bT_ (bs_ HB GE488) hb); (try clear ho0); obtain ⟨Ao21, co21, eo21⟩ := Kd.R_slice HO496.out; subst eo21) | (go_at_call 72; (with_reducible refine (r0_In.calls k1 _ _ t494 t493 t497 _ ?side1 ?side2 A18.out).mono ?_); (case side1 => exact rC_ (Kd.R_reads' HO496.out).2.2); (case side2 => exact (Kd.R_reads' HO496.out).2.1); rintro e w' ⟨rfl, ⟨nd, rfl⟩⟩; (try first | exact ⟨rfl, _, dN_⟩ | exact ⟨rfl, _, dT_⟩))); try go_wp2_with (first | (go_at_call 73; (with_reducible refine (r3_Reads.calls k1 a1_0 a1_1 a1_2 a1_3 a1_4 a1_5 t494 _ A17.out).mono ?_); rintro e w20 ⟨v495, rfl, ho0, hb⟩; replace HO496 := aM_ (Kd.R_lower ho0 (bY_ (bs_ HB GE488))); replace BK488 := aM_ (kB_ (rB_ BK488) hb); replace HB := aM_ (bT_ (bs_ HB GE488) hb); (try clear ho0); obtain ⟨Ao21, co21, eo21⟩ := Kd.R_slice HO496.out; subst eo21) | (go_at_call 72; (with_reducible refine (r0_In.calls k1 _ _ t494 t493 t497 _ ?side1 ?side2 A18.out).mono ?_); (case side1 => exact rC_ (Kd.R_reads' HO496.out).2.2); (case side2 => exact (Kd.R_reads' HO496.out).2.1); rintro e w' ⟨rfl, ⟨nd, rfl⟩⟩; (try first | exact ⟨rfl, _, dN_⟩ | exact ⟨rfl, _, dT_⟩))))
        first | go_meet | (refine Met.intro ?_; go_step; (repeat apply Exists.intro); refine ⟨?rel, by rw [c26b0]⟩)
        case rel => exact ⟨_, (decide (t497 ≥ 0)), eQ_, H, ⟨by have := HK1.out; first | omega | exact Nat.le_refl _⟩, ⟨rB_ BK488⟩, ⟨bs_ HB GE488⟩⟩
       rw [if_neg c16] at H
       have c16b0 := dF_ c16
       clear c16
       (first | rw [c16b0] | (simp only [i64_w, i32_w]; rw [c16b0]) | skip)
       replace H := aM_ H
       go_wp2
       repeat (go_quiet (fail); try go_wp2)
       first | go_meet | (refine Met.intro ?_; go_step; (repeat apply Exists.intro); refine ⟨?rel, by rw [c26b0]⟩)
       case rel => exact ⟨_, (false), eQ_, H, ⟨by have := HK1.out; first | omega | exact Nat.le_refl _⟩, ⟨rB_ BK488⟩, ⟨bs_ HB GE488⟩⟩
      case rest =>
       clear HC14
       obtain ⟨kq, x48_13, rfl, HA, HJ13, BK488, HB⟩ := hcut
       cases kq with
       | zero => exact absurd HA.out (by simp [r13_Last.j1])
       | succ kj13 =>
        have H := HA.out
        clear HA
        simp only [r13_Last.j1] at H
        have HC22 := aM_ H
        clear H
        go_upto_if 48 with (fail)
        repeat (go_quiet (fail); go_upto_if 48 with (fail))
        go_cut [7] (fun v7 wc => ∃ (kq : Nat) (x7_21 : Int), v7 = .int .i64 x7_21 ∧ As_ (r13_Last.j2 kq l0 l2 x7_21 (a1_0 == 33) x9_1 (rd l2 x9_1) t491 a1_0 a1_1 a1_2 a1_3 a1_4 a1_5 = some r) ∧ As_ (kq ≤ kj13) ∧ As_ (wc.heap[gb488]? = some (.cells #[.int .i64 a1_0, .int .i64 a1_1, .int .i64 a1_2, .int .i64 a1_3, .int .i64 a1_4, .string a1_5] 24 (0, 0))) ∧ As_ (Below w.heap.size w wc))
        case first =>
         have H := HC22.out
         clear HC22
         by_cases c23 : x48_13 = true
         ·subst c23
          rw [if_pos rfl] at H
          obtain ⟨ji24, hji24⟩ : ∃ j_ : Int, (mx x7_1 (wrap64 ((rd l2 x9_1) + t491))) = j_ := ⟨_, rfl⟩
          replace H : (r13_Last.j2 kj13 l0 l2 ji24 (a1_0 == 33) x9_1 (rd l2 x9_1) t491 a1_0 a1_1 a1_2 a1_3 a1_4 a1_5) = some r := by first | (rw [hji24] at H; exact H) | (simp only [hji24] at H ⊢; exact H)
          have hji24_ : (if x7_1 < (wrap64 ((rd l2 x9_1) + t491)) then (wrap64 ((rd l2 x9_1) + t491)) else x7_1) = ji24 := hji24
          replace H := aM_ H
          go_wp2
          repeat (go_quiet (fail); try go_wp2)
          first | go_meet | (refine Met.intro ?_; go_step; (repeat apply Exists.intro); refine ⟨?rel, by rw [c26b0]⟩)
          case rel => exact ⟨_, (ji24), (by first | rfl | (simp; done) | (simp only [← hji24] <;> (first | rfl | simp)) | (simp [*]; done) | (congr 1; rw [Bool.eq_iff_iff]; simp; done)), H, ⟨by have := HK1.out; have := HJ13.out; first | omega | exact Nat.le_refl _⟩, ⟨rB_ BK488⟩, ⟨bs_ HB GE488⟩⟩
         replace c23 := eF_ c23
         subst c23
         rw [if_neg Bool.false_ne_true] at H
         replace H := aM_ H
         go_wp2
         repeat (go_quiet (fail); try go_wp2)
         first | go_meet | (refine Met.intro ?_; go_step; (repeat apply Exists.intro); refine ⟨?rel, by rw [c26b0]⟩)
         case rel => exact ⟨_, (x7_1), eQ_, H, ⟨by have := HK1.out; have := HJ13.out; first | omega | exact Nat.le_refl _⟩, ⟨rB_ BK488⟩, ⟨bs_ HB GE488⟩⟩
        case rest =>
         clear HC22
         obtain ⟨kq, x7_21, rfl, HA, HJ21, BK488, HB⟩ := hcut
         cases kq with
         | zero => exact absurd HA.out (by simp [r13_Last.j2])
         | succ kj21 =>
          have H := HA.out
          clear HA
          simp only [r13_Last.j2] at H
          have HC25 := aM_ H
          clear H
          go_upto_region 12 with (fail)
          repeat (go_quiet (fail); go_upto_region 12 with (fail))
          go_cut [67] (fun v67 wc => ∃ (kq : Nat) (x67_24 : Bool), v67 = .bool x67_24 ∧ As_ (r13_Last.j3 kq l0 l2 x7_21 (a1_0 == 33) x9_1 (rd l2 x9_1) t491 x67_24 a1_0 a1_1 a1_2 a1_3 a1_4 a1_5 = some r) ∧ As_ (kq ≤ kj21) ∧ As_ (wc.heap[gb488]? = some (.cells #[.int .i64 a1_0, .int .i64 a1_1, .int .i64 a1_2, .int .i64 a1_3, .int .i64 a1_4, .string a1_5] 24 (0, 0))) ∧ As_ (Below w.heap.size w wc))
          case first =>
           have H := HC25.out
           clear HC25
           by_cases c26 : (a1_0 == 33) = true
           ·rw [if_pos c26] at H
            have c26b0 : (a1_0 == 33) = true := c26
            (try (have c26b1 : decide (a1_0 = 33) = true := by simpa using c26))
            (try (have c26b2 : (a1_0 == 33) = true := by simpa using c26))
            clear c26
            (first | rw [c26b0] | (simp only [i64_w, i32_w]; rw [c26b0]) | skip)
            replace H := aM_ H
            go_wp2
            repeat (go_quiet (fail); try go_wp2)
            first | go_meet | (refine Met.intro ?_; go_step; (repeat apply Exists.intro); refine ⟨?rel, by rw [c26b0]⟩)
            case rel => exact ⟨_, (true), eQ_, H, ⟨by have := HK1.out; have := HJ13.out; have := HJ21.out; first | omega | exact Nat.le_refl _⟩, ⟨rB_ BK488⟩, ⟨bs_ HB GE488⟩⟩
           rw [if_neg c26] at H
           have c26b0 : (a1_0 == 33) = false := by simpa using c26
           (try (have c26b1 : decide (a1_0 = 33) = false := by simpa using c26))
           (try (have c26b2 : (a1_0 == 33) = false := by simpa using c26))
           (try (have c26b3 : ¬ (a1_0 = 33) := by simpa using c26))
           clear c26
           (first | rw [c26b0] | (simp only [i64_w, i32_w]; rw [c26b0]) | skip)
           replace H := oB_ H
           obtain ⟨t498, A27, H⟩ := H
           by_cases c28 : t498 = true
           ·subst c28
            rw [if_pos rfl] at H
            by_cases c29 : 0 ≤ x9_1
            ·rw [if_pos c29] at H
             have c29b0 := dE_ c29
             clear c29
             by_cases c30 : x9_1 < (l0.length : Int)
             ·rw [if_pos c30] at H
              have c30b0 := dE_ c30
              clear c30
              replace H := oB_ H
              obtain ⟨t500, A31, H⟩ := H
              replace H := aM_ H
              obtain ⟨hcz32_0, hcz32_1, hcz32_2, hcz32_3, hcz32_4, hcz32_5⟩ := cl6_ BK488.out
              obtain ⟨hfz32_0, hfz32_1, hfz32_2, hfz32_3, hfz32_4, hfz32_5⟩ := fz6_ BK488.out
              go_wp2_with (first | (go_at_call 36; (with_reducible refine (r3_Effect.calls a1_0 true _ A27.out).mono ?_); rintro e w' ⟨rfl, ⟨nd, rfl⟩⟩; (try first | exact ⟨rfl, _, dN_⟩ | exact ⟨rfl, _, dT_⟩); have p499 : 0 ≤ (x9_1 : Int) := oD_; have q499 : x9_1 < (l0.length : Int) := oD_; obtain ⟨ad499, e499, hx499_0, hx499_1, hx499_2, hx499_3, hx499_4, hx499_5⟩ := at_T24 HR0.out x9_1 p499 q499; obtain rfl : ad490 = ad499 := (by injection e499); replace hx499_0 := hC_ HB hx499_0; replace hx499_1 := hC_ HB hx499_1; replace hx499_2 := hC_ HB hx499_2; replace hx499_3 := hC_ HB hx499_3; replace hx499_4 := hC_ HB hx499_4; replace hx499_5 := hC_ HB hx499_5; replace p499 := eq_true p499; replace q499 := eq_true q499) | (go_at_call 36; (with_reducible refine (r3_Effect.calls ((q24 l0 x9_1).f0) t500 _ A31.out).mono ?_); rintro e w' ⟨rfl, ⟨nd, rfl⟩⟩; (try first | exact ⟨rfl, _, dN_⟩ | exact ⟨rfl, _, dT_⟩)))
              repeat (go_quiet (first | (go_at_call 36; (with_reducible refine (r3_Effect.calls a1_0 true _ A27.out).mono ?_); rintro e w' ⟨rfl, ⟨nd, rfl⟩⟩; (try first | exact ⟨rfl, _, dN_⟩ | exact ⟨rfl, _, dT_⟩); have p499 : 0 ≤ (x9_1 : Int) := oD_; have q499 : x9_1 < (l0.length : Int) := oD_; obtain ⟨ad499, e499, hx499_0, hx499_1, hx499_2, hx499_3, hx499_4, hx499_5⟩ := at_T24 HR0.out x9_1 p499 q499; obtain rfl : ad490 = ad499 := (by injection e499); replace hx499_0 := hC_ HB hx499_0; replace hx499_1 := hC_ HB hx499_1; replace hx499_2 := hC_ HB hx499_2; replace hx499_3 := hC_ HB hx499_3; replace hx499_4 := hC_ HB hx499_4; replace hx499_5 := hC_ HB hx499_5; replace p499 := eq_true p499; replace q499 := eq_true q499) | (go_at_call 36; (with_reducible refine (r3_Effect.calls ((q24 l0 x9_1).f0) t500 _ A31.out).mono ?_); rintro e w' ⟨rfl, ⟨nd, rfl⟩⟩; (try first | exact ⟨rfl, _, dN_⟩ | exact ⟨rfl, _, dT_⟩))); try go_wp2_with (first | (go_at_call 36; (with_reducible refine (r3_Effect.calls a1_0 true _ A27.out).mono ?_); rintro e w' ⟨rfl, ⟨nd, rfl⟩⟩; (try first | exact ⟨rfl, _, dN_⟩ | exact ⟨rfl, _, dT_⟩); have p499 : 0 ≤ (x9_1 : Int) := oD_; have q499 : x9_1 < (l0.length : Int) := oD_; obtain ⟨ad499, e499, hx499_0, hx499_1, hx499_2, hx499_3, hx499_4, hx499_5⟩ := at_T24 HR0.out x9_1 p499 q499; obtain rfl : ad490 = ad499 := (by injection e499); replace hx499_0 := hC_ HB hx499_0; replace hx499_1 := hC_ HB hx499_1; replace hx499_2 := hC_ HB hx499_2; replace hx499_3 := hC_ HB hx499_3; replace hx499_4 := hC_ HB hx499_4; replace hx499_5 := hC_ HB hx499_5; replace p499 := eq_true p499; replace q499 := eq_true q499) | (go_at_call 36; (with_reducible refine (r3_Effect.calls ((q24 l0 x9_1).f0) t500 _ A31.out).mono ?_); rintro e w' ⟨rfl, ⟨nd, rfl⟩⟩; (try first | exact ⟨rfl, _, dN_⟩ | exact ⟨rfl, _, dT_⟩))))
              first | go_meet | (refine Met.intro ?_; go_step; (repeat apply Exists.intro); refine ⟨?rel, by rw [c26b0]⟩)
              case rel => exact ⟨_, (t500), eQ_, H, ⟨by have := HK1.out; have := HJ13.out; have := HJ21.out; first | omega | exact Nat.le_refl _⟩, ⟨rB_ BK488⟩, ⟨bs_ HB GE488⟩⟩
             rw [if_neg c30] at H
             exact absurd H (by simp)
            rw [if_neg c29] at H
            exact absurd H (by simp)
           replace c28 := eF_ c28
           subst c28
           rw [if_neg Bool.false_ne_true] at H
           replace H := aM_ H
           obtain ⟨hcz33_0, hcz33_1, hcz33_2, hcz33_3, hcz33_4, hcz33_5⟩ := cl6_ BK488.out
           obtain ⟨hfz33_0, hfz33_1, hfz33_2, hfz33_3, hfz33_4, hfz33_5⟩ := fz6_ BK488.out
           go_wp2_with (first | (go_at_call 36; (with_reducible refine (r3_Effect.calls a1_0 false _ A27.out).mono ?_); rintro e w' ⟨rfl, ⟨nd, rfl⟩⟩; (try first | exact ⟨rfl, _, dN_⟩ | exact ⟨rfl, _, dT_⟩)))
           repeat (go_quiet (first | (go_at_call 36; (with_reducible refine (r3_Effect.calls a1_0 false _ A27.out).mono ?_); rintro e w' ⟨rfl, ⟨nd, rfl⟩⟩; (try first | exact ⟨rfl, _, dN_⟩ | exact ⟨rfl, _, dT_⟩))); try go_wp2_with (first | (go_at_call 36; (with_reducible refine (r3_Effect.calls a1_0 false _ A27.out).mono ?_); rintro e w' ⟨rfl, ⟨nd, rfl⟩⟩; (try first | exact ⟨rfl, _, dN_⟩ | exact ⟨rfl, _, dT_⟩))))
           first | go_meet | (refine Met.intro ?_; go_step; (repeat apply Exists.intro); refine ⟨?rel, by rw [c26b0]⟩)
           case rel => exact ⟨_, (false), eQ_, H, ⟨by have := HK1.out; have := HJ13.out; have := HJ21.out; first | omega | exact Nat.le_refl _⟩, ⟨rB_ BK488⟩, ⟨bs_ HB GE488⟩⟩
          case rest =>
           clear HC25
           obtain ⟨kq, x67_24, rfl, HA, HJ24, BK488, HB⟩ := hcut
           cases kq with
           | zero => exact absurd HA.out (by simp [r13_Last.j3])
           | succ kj24 =>
            have H := HA.out
            clear HA
            simp only [r13_Last.j3] at H
            have HC34 := aM_ H
            clear H
            go_upto_if 67 with (fail)
            repeat (go_quiet (fail); go_upto_if 67 with (fail))
            go_cut [7] (fun v7 wc => ∃ (kq : Nat) (x7_33 : Int), v7 = .int .i64 x7_33 ∧ As_ (r13_Last.j4 kq l0 l2 x7_33 (a1_0 == 33) x9_1 (rd l2 x9_1) t491 a1_0 a1_1 a1_2 a1_3 a1_4 a1_5 = some r) ∧ As_ (kq ≤ kj24) ∧ As_ (wc.heap[gb488]? = some (.cells #[.int .i64 a1_0, .int .i64 a1_1, .int .i64 a1_2, .int .i64 a1_3, .int .i64 a1_4, .string a1_5] 24 (0, 0))) ∧ As_ (Below w.heap.size w wc))
            case first =>
             have H := HC34.out
             clear HC34
             by_cases c35 : x67_24 = true
             ·subst c35
              rw [if_pos rfl] at H
              obtain ⟨ji36, hji36⟩ : ∃ j_ : Int, (mx x7_21 (wrap64 ((rd l2 x9_1) + 1))) = j_ := ⟨_, rfl⟩
              replace H : (r13_Last.j4 kj24 l0 l2 ji36 (a1_0 == 33) x9_1 (rd l2 x9_1) t491 a1_0 a1_1 a1_2 a1_3 a1_4 a1_5) = some r := by first | (rw [hji36] at H; exact H) | (simp only [hji36] at H ⊢; exact H)
              have hji36_ : (if x7_21 < (wrap64 ((rd l2 x9_1) + 1)) then (wrap64 ((rd l2 x9_1) + 1)) else x7_21) = ji36 := hji36
              replace H := aM_ H
              go_wp2
              repeat (go_quiet (fail); try go_wp2)
              first | go_meet | (refine Met.intro ?_; go_step; (repeat apply Exists.intro); refine ⟨?rel, by rw [c26b0]⟩)
              case rel => exact ⟨_, (ji36), (by first | rfl | (simp; done) | (simp only [← hji36] <;> (first | rfl | simp)) | (simp [*]; done) | (congr 1; rw [Bool.eq_iff_iff]; simp; done)), H, ⟨by have := HK1.out; have := HJ13.out; have := HJ21.out; have := HJ24.out; first | omega | exact Nat.le_refl _⟩, ⟨rB_ BK488⟩, ⟨bs_ HB GE488⟩⟩
             replace c35 := eF_ c35
             subst c35
             rw [if_neg Bool.false_ne_true] at H
             replace H := aM_ H
             go_wp2
             repeat (go_quiet (fail); try go_wp2)
             first | go_meet | (refine Met.intro ?_; go_step; (repeat apply Exists.intro); refine ⟨?rel, by rw [c26b0]⟩)
             case rel => exact ⟨_, (x7_21), eQ_, H, ⟨by have := HK1.out; have := HJ13.out; have := HJ21.out; have := HJ24.out; first | omega | exact Nat.le_refl _⟩, ⟨rB_ BK488⟩, ⟨bs_ HB GE488⟩⟩
            case rest =>
             clear HC34
             obtain ⟨kq, x7_33, rfl, HA, HJ33, BK488, HB⟩ := hcut
             cases kq with
             | zero => exact absurd HA.out (by simp [r13_Last.j4])
             | succ kj33 =>
              have H := HA.out
              clear HA
              simp only [r13_Last.j4] at H
              by_cases c37 : (a1_0 == 33) = true
              ·rw [if_pos c37] at H
               have c37b0 : (a1_0 == 33) = true := c37
               (try (have c37b1 : decide (a1_0 = 33) = true := by simpa using c37))
               (try (have c37b2 : (a1_0 == 33) = true := by simpa using c37))
               clear c37
               replace H := aM_ H
               go_wp2
               repeat (go_quiet (fail); try go_wp2)
               go_roundg kj33
               case measure => have := HK1.out; have := HJ13.out; have := HJ21.out; have := HJ24.out; have := HJ33.out; omega
               case rel => exact ⟨(x7_33), (wrap64 (x9_1 + 1)), eQ_, eQ_, H, ⟨by have := HK1.out; have := HJ13.out; have := HJ21.out; have := HJ24.out; have := HJ33.out; omega⟩, ⟨rB_ BK488⟩, ⟨bs_ HB GE488⟩⟩
              rw [if_neg c37] at H
              have c37b0 : (a1_0 == 33) = false := by simpa using c37
              (try (have c37b1 : decide (a1_0 = 33) = false := by simpa using c37))
              (try (have c37b2 : (a1_0 == 33) = false := by simpa using c37))
              (try (have c37b3 : ¬ (a1_0 = 33) := by simpa using c37))
              clear c37
              obtain ⟨ji38, hji38⟩ : ∃ j_ : Int, (mx x7_33 (wrap64 ((rd l2 x9_1) - 2))) = j_ := ⟨_, rfl⟩
              replace H : (r13_Last.l0 kj33 l0 l2 (mx (ji38) (wrap64 ((wrap64 ((wrap64 ((rd l2 x9_1) + t491)) - 2)) - 1))) (a1_0 == 33) (wrap64 (x9_1 + 1)) a1_0 a1_1 a1_2 a1_3 a1_4 a1_5) = some r := by first | (rw [hji38] at H; exact H) | (simp only [hji38] at H ⊢; exact H)
              have hji38_ : (if x7_33 < (wrap64 ((rd l2 x9_1) - 2)) then (wrap64 ((rd l2 x9_1) - 2)) else x7_33) = ji38 := hji38
              obtain ⟨ji39, hji39⟩ : ∃ j_ : Int, (mx (ji38) (wrap64 ((wrap64 ((wrap64 ((rd l2 x9_1) + t491)) - 2)) - 1))) = j_ := ⟨_, rfl⟩
              replace H : (r13_Last.l0 kj33 l0 l2 ji39 (a1_0 == 33) (wrap64 (x9_1 + 1)) a1_0 a1_1 a1_2 a1_3 a1_4 a1_5) = some r := by first | (rw [hji39] at H; exact H) | (simp only [hji39] at H ⊢; exact H)
              have hji39_ : (if (ji38) < (wrap64 ((wrap64 ((wrap64 ((rd l2 x9_1) + t491)) - 2)) - 1)) then (wrap64 ((wrap64 ((wrap64 ((rd l2 x9_1) + t491)) - 2)) - 1)) else (ji38)) = ji39 := hji39
              replace H := aM_ H
              go_wp2
              repeat (go_quiet (fail); try go_wp2)
              go_roundg kj33
              case measure => have := HK1.out; have := HJ13.out; have := HJ21.out; have := HJ24.out; have := HJ33.out; omega
              case rel => exact ⟨(ji39), (wrap64 (x9_1 + 1)), (by first | rfl | (simp; done) | (simp only [← hji39] <;> (first | rfl | simp)) | (simp [*]; done) | (congr 1; rw [Bool.eq_iff_iff]; simp; done)), eQ_, H, ⟨by have := HK1.out; have := HJ13.out; have := HJ21.out; have := HJ24.out; have := HJ33.out; omega⟩, ⟨rB_ BK488⟩, ⟨bs_ HB GE488⟩⟩
     rw [if_neg c11] at H
     exact absurd H (by simp)
    rw [if_neg c10] at H
    exact absurd H (by simp)
   rw [if_neg c9] at H
   have c9b0 := dF_ c9
   clear c9
   obtain rfl := oI_ H
   go_wp2
   repeat (go_quiet (fail); try go_wp2)
   go_ret
   exact ⟨eR_, bs_ HB GE488⟩
end
section
def step1 (x y : S24) (c n : Int) : Int := if rdsP x y = true then mx n (wrap64 (c + lateOp y.f0)) else n
def step2 (x y : S24) (c n : Int) : Int := if (decide (x.f0 = 33) || (effOp x.f0 && effOp y.f0)) = true then mx n (wrap64 (c + 1)) else n
def step3 (x y : S24) (c n : Int) : Int := if x.f0 = 33 then n else mx (mx n (wrap64 (c - 2))) (wrap64 ((wrap64 ((wrap64 (c + lateOp y.f0)) - 2)) - 1))
def lastUp (l : List S24) (at_ : List Int) (x : S24) : Nat → Nat → Int → Int
  | 0, _, n => n
  | d + 1, i, n => lastUp l at_ x d (i + 1) (step3 x (q24 l i) (rd at_ i) (step2 x (q24 l i) (rd at_ i) (step1 x (q24 l i) (rd at_ i) n)))
def lastOf (l : List S24) (x : S24) (at_ : List Int) : Int := if x.f0 = 0 then 0 else lastUp l at_ x l.length 0 0
theorem own_j3 {k : Nat} (hk : 40 ≤ k) (x y : S24) (hx : 0 ≤ x.f0 ∧ x.f0 ≤ 33) (hy : 0 ≤ y.f0 ∧ y.f0 ≤ 33) (at_ : List Int) (l : List S24) (n c m : Int) (i : Nat) (hi : i ≤ 1000000) :
    dag_Least.j3 (k + 1) at_ n c l m (i : Int) x.f0 x.f1 x.f2 x.f3 x.f4 x.f5 y.f0 y.f1 y.f2 y.f3 y.f4 y.f5 = dag_Least.l0 k at_ (step3 x y c n) l m ((i + 1 : Nat) : Int) x.f0 x.f1 x.f2 x.f3 x.f4 x.f5 := by
  rw [dag_Least.j3, wrap_at (by omega)]
  unfold step3
  by_cases h : x.f0 = 33
  · rw [if_pos h, if_pos h]
  · rw [if_neg h, if_neg h, late_eq (by omega) _ hy.1 hy.2, Option.bind_some]
theorem own_j1 {k : Nat} (hk : 40 ≤ k) (x y : S24) (hx : 0 ≤ x.f0 ∧ x.f0 ≤ 33) (hy : 0 ≤ y.f0 ∧ y.f0 ≤ 33) (at_ : List Int) (l : List S24) (n c m : Int) (i : Nat) (hi : i ≤ 1000000) :
    dag_Least.j1 (k + 1 + 1 + 1) at_ n c l m (i : Int) x.f0 x.f1 x.f2 x.f3 x.f4 x.f5 y.f0 y.f1 y.f2 y.f3 y.f4 y.f5 = dag_Least.l0 k at_ (step3 x y c (step2 x y c n)) l m ((i + 1 : Nat) : Int) x.f0 x.f1 x.f2 x.f3 x.f4 x.f5 := by
  rw [dag_Least.j1]
  unfold step2
  by_cases h : x.f0 = 33
  · rw [if_pos h, dag_Least.j2, if_pos rfl, decide_eq_true h, Bool.true_or, if_pos rfl]
    exact own_j3 hk x y hx hy at_ l _ c m i hi
  · rw [if_neg h, eff_eq (by omega) _ hx.1 hx.2, Option.bind_some, decide_eq_false h, Bool.false_or]
    cases effOp x.f0 with
    | false =>
      rw [if_neg (by decide), dag_Least.j2, if_neg (by decide), Bool.false_and, if_neg (by decide)]
      exact own_j3 hk x y hx hy at_ l _ c m i hi
    | true =>
      rw [if_pos rfl, eff_eq (by omega) _ hy.1 hy.2, Option.bind_some, dag_Least.j2, Bool.true_and]
      cases effOp y.f0 with
      | false =>
        rw [if_neg (by decide), if_neg (by decide)]
        exact own_j3 hk x y hx hy at_ l _ c m i hi
      | true =>
        rw [if_pos rfl, if_pos rfl]
        exact own_j3 hk x y hx hy at_ l _ c m i hi
theorem own_last (l : List S24) (hl : l.length ≤ 1000) (ho : okL l) (x : S24) (hx : 0 ≤ x.f0 ∧ x.f0 ≤ 33) (at_ : List Int) (ha : at_.length = l.length) : ∀ (d k i : Nat) (n : Int), i + d = l.length → 100 + 4 * d ≤ k →
    dag_Least.l0 k at_ n l (l.length : Int) (i : Int) x.f0 x.f1 x.f2 x.f3 x.f4 x.f5 = some (lastUp l at_ x d i n)
  | 0, k, i, n, hi, hk => by
    obtain ⟨k, rfl⟩ : ∃ k', k = k' + 1 := ⟨k - 1, by omega⟩
    rw [dag_Least.l0, if_neg (by omega)]; rfl
  | d + 1, k, i, n, hi, hk => by
    obtain ⟨k, rfl⟩ : ∃ k', k = k' + 1 + 1 + 1 + 1 := ⟨k - 4, by omega⟩
    have hy := okI_op (ho i (by omega))
    rw [dag_Least.l0, if_pos (by omega), if_pos (by omega), if_pos (by omega), if_pos (by omega), reads_eq (by omega) x _ hx hy, Option.bind_some]
    have go : ∀ n', dag_Least.j1 (k + 1 + 1 + 1) at_ n' (rd at_ i) l (l.length : Int) (i : Int) x.f0 x.f1 x.f2 x.f3 x.f4 x.f5 (q24 l i).f0 (q24 l i).f1 (q24 l i).f2 (q24 l i).f3 (q24 l i).f4 (q24 l i).f5 = some (lastUp l at_ x d (i + 1) (step3 x (q24 l i) (rd at_ i) (step2 x (q24 l i) (rd at_ i) n'))) := fun n' => by
      rw [own_j1 (by omega) x _ hx hy at_ l n' _ _ i (by omega)]
      exact own_last l hl ho x hx at_ ha d k (i + 1) _ (by omega) (by omega)
    show _ = some (lastUp l at_ x d (i + 1) (step3 x (q24 l i) (rd at_ i) (step2 x (q24 l i) (rd at_ i) (step1 x (q24 l i) (rd at_ i) n))))
    unfold step1
    cases rdsP x (q24 l i) with
    | false => rw [if_neg (by decide), if_neg (by decide)]; exact go n
    | true => rw [if_pos rfl, if_pos rfl, late_eq (by omega) _ hy.1 hy.2, Option.bind_some]; exact go _
theorem least_eq {k : Nat} (l : List S24) (hl : l.length ≤ 1000) (ho : okL l) (x : S24) (hx : 0 ≤ x.f0 ∧ x.f0 ≤ 33) (at_ : List Int) (ha : at_.length = l.length) (hk : 5000 ≤ k) : dag_Least.f k l x.f0 x.f1 x.f2 x.f3 x.f4 x.f5 at_ = some (lastOf l x at_) := by
  unfold dag_Least.f lastOf
  by_cases h : x.f0 = 0
  · rw [if_pos h, if_pos h]
  · rw [if_neg h, if_neg h]
    exact own_last l hl ho x hx at_ ha l.length k 0 0 (by omega) (by omega)
theorem rds_w (x y : S24) (hy : okI y = true) : (decide (wOf y ≥ 0) && (readsL x).any (fun r => wOf y == r)) = rdsP x y := by
  have dy := okI_d hy
  unfold rdsP wOf
  cases hasD (formOf y.f0) with
  | true => rw [if_pos rfl, decide_eq_true dy]
  | false => rw [if_neg (by decide), decide_eq_false (by omega)]; rfl
theorem ref_j4 {k : Nat} (hk : 40 ≤ k) (x y : S24) (at_ : List Int) (l : List S24) (n c : Int) (i : Nat) (hi : i ≤ 1000000) :
    r13_Last.j4 (k + 1) l at_ n (x.f0 == 33) (i : Int) c (lateOp y.f0) x.f0 x.f1 x.f2 x.f3 x.f4 x.f5 = r13_Last.l0 k l at_ (step3 x y c n) (x.f0 == 33) ((i + 1 : Nat) : Int) x.f0 x.f1 x.f2 x.f3 x.f4 x.f5 := by
  rw [r13_Last.j4, wrap_at (by omega)]
  unfold step3
  by_cases h : x.f0 = 33
  · rw [if_pos (by simpa using h), if_pos h]
  · rw [if_neg (by simpa using h), if_neg h]
theorem ref_j2 {k : Nat} (hk : 40 ≤ k) (x : S24) (hx : 0 ≤ x.f0 ∧ x.f0 ≤ 33) (at_ : List Int) (l : List S24) (n c : Int) (i : Nat) (hi : i ≤ 1000000) (hil : i < l.length) (hy : 0 ≤ (q24 l i).f0 ∧ (q24 l i).f0 ≤ 33) :
    r13_Last.j2 (k + 1 + 1 + 1) l at_ n (x.f0 == 33) (i : Int) c (lateOp (q24 l i).f0) x.f0 x.f1 x.f2 x.f3 x.f4 x.f5 = r13_Last.l0 k l at_ (step3 x (q24 l i) c (step2 x (q24 l i) c n)) (x.f0 == 33) ((i + 1 : Nat) : Int) x.f0 x.f1 x.f2 x.f3 x.f4 x.f5 := by
  rw [r13_Last.j2]
  unfold step2
  by_cases h : x.f0 = 33
  · rw [if_pos (by simpa using h), r13_Last.j3, if_pos rfl, decide_eq_true h, Bool.true_or, if_pos rfl]
    exact ref_j4 hk x _ at_ l _ c i hi
  · rw [if_neg (by simpa using h), reff_eq _ hx.1 hx.2, Option.bind_some, decide_eq_false h, Bool.false_or]
    cases effOp x.f0 with
    | false =>
      rw [if_neg (by decide), r13_Last.j3, if_neg (by decide), Bool.false_and, if_neg (by decide)]
      exact ref_j4 hk x _ at_ l _ c i hi
    | true =>
      rw [if_pos rfl, if_pos (by omega), if_pos (by omega), reff_eq _ hy.1 hy.2, Option.bind_some, r13_Last.j3, Bool.true_and]
      cases effOp (q24 l i).f0 with
      | false =>
        rw [if_neg (by decide), if_neg (by decide)]
        exact ref_j4 hk x _ at_ l _ c i hi
      | true =>
        rw [if_pos rfl, if_pos rfl]
        exact ref_j4 hk x _ at_ l _ c i hi
theorem ref_last (l : List S24) (hl : l.length ≤ 1000) (ho : okL l) (x : S24) (hx : 0 ≤ x.f0 ∧ x.f0 ≤ 33) (at_ : List Int) (ha : at_.length = l.length) : ∀ (d k i : Nat) (n : Int), i + d = l.length → 100 + 5 * d ≤ k →
    r13_Last.l0 k l at_ n (x.f0 == 33) (i : Int) x.f0 x.f1 x.f2 x.f3 x.f4 x.f5 = some (lastUp l at_ x d i n)
  | 0, k, i, n, hi, hk => by
    obtain ⟨k, rfl⟩ : ∃ k', k = k' + 1 := ⟨k - 1, by omega⟩
    rw [r13_Last.l0, if_neg (by omega)]; rfl
  | d + 1, k, i, n, hi, hk => by
    obtain ⟨k, rfl⟩ : ∃ k', k = k' + 1 + 1 + 1 + 1 + 1 := ⟨k - 5, by omega⟩
    have hoi := ho i (by omega)
    have hy := okI_op hoi
    have go : ∀ n', r13_Last.j2 (k + 1 + 1 + 1) l at_ n' (x.f0 == 33) (i : Int) (rd at_ i) (lateOp (q24 l i).f0) x.f0 x.f1 x.f2 x.f3 x.f4 x.f5 = some (lastUp l at_ x d (i + 1) (step3 x (q24 l i) (rd at_ i) (step2 x (q24 l i) (rd at_ i) n'))) := fun n' => by
      rw [ref_j2 (by omega) x hx at_ l n' _ i (by omega) (by omega) hy]
      exact ref_last l hl ho x hx at_ ha d k (i + 1) _ (by omega) (by omega)
    rw [r13_Last.l0, if_pos (by omega), if_pos (by omega), if_pos (by omega), rlate_eq (by omega) _ hy.1 hy.2, Option.bind_some, rwrites_eq _ hy.1 hy.2, Option.bind_some]
    show _ = some (lastUp l at_ x d (i + 1) (step3 x (q24 l i) (rd at_ i) (step2 x (q24 l i) (rd at_ i) (step1 x (q24 l i) (rd at_ i) n))))
    unfold step1
    rw [← rds_w x _ hoi]
    by_cases hw : wOf (q24 l i) ≥ 0
    · obtain ⟨r, e1, q1⟩ := in_eq (show 5 ≤ k + 1 + 1 + 1 + 1 by omega) x (wOf (q24 l i))
      rw [if_pos hw, rreads_eq (by omega) x hx.1 hx.2, Option.bind_some, e1, Option.bind_some, q1, decide_eq_true hw, Bool.true_and, r13_Last.j1]
      cases (readsL x).any (fun r => wOf (q24 l i) == r) with
      | false => rw [if_neg (by decide), if_neg (by decide)]; exact go n
      | true => rw [if_pos rfl, if_pos rfl]; exact go _
    · rw [if_neg hw, decide_eq_false hw, Bool.false_and, r13_Last.j1, if_neg (by decide), if_neg (by decide)]
      exact go n
theorem rlast_eq {k : Nat} (l : List S24) (hl : l.length ≤ 1000) (ho : okL l) (x : S24) (hx : 0 ≤ x.f0 ∧ x.f0 ≤ 33) (at_ : List Int) (ha : at_.length = l.length) (hk : 6000 ≤ k) : r13_Last.f k l x.f0 x.f1 x.f2 x.f3 x.f4 x.f5 at_ = some (lastOf l x at_) := by
  unfold r13_Last.f lastOf
  by_cases h : x.f0 = 0
  · rw [if_pos h, if_pos h]
  · rw [if_neg h, if_neg h]
    exact ref_last l hl ho x hx at_ ha l.length k 0 0 (by omega) (by omega)
end
section
theorem cyc_in {l : List S24} (ho : okA l) (hn : l.length ≤ 200) (i : Nat) (hi : i < l.length) : (0 ≤ rd (cycF l).at_ i ∧ rd (cycF l).at_ i ≤ 799) ∧ 0 ≤ rd (cycF l).sl i ∧ rd (cycF l).sl i ≤ 3 := by
  obtain ⟨h0, hg⟩ := cycF_ends ho
  have h1 := hg.left
  have h2 := open_none (cycF l).at_ (by omega) i (by rw [hg.len]; exact hi)
  have h3 := (hg.up i hi).2
  exact ⟨⟨h2, by omega⟩, hg.slots i hi⟩
theorem cyc_len {l : List S24} (ho : okA l) : (cycF l).at_.length = l.length ∧ (cycF l).sl.length = l.length := ⟨(cycF_ends ho).2.len, (cycF_ends ho).2.len2⟩
theorem mx_ge (a b : Int) : a ≤ mx a b ∧ b ≤ mx a b ∧ (mx a b = a ∨ mx a b = b) := by unfold mx; split <;> omega
section
variable (x : S24) (l : List S24) (at_ : List Int)
theorem steps_bd (y : S24) (c n : Int) (h0 : 0 ≤ c) (h1 : c ≤ 799) (n0 : 0 ≤ n) (n1 : n ≤ 900) :
    (n ≤ step3 x y c (step2 x y c (step1 x y c n)) ∧ step3 x y c (step2 x y c (step1 x y c n)) ≤ 900) ∧ (x.f0 = 33 → c + 1 ≤ step3 x y c (step2 x y c (step1 x y c n))) ∧ (x.f0 ≠ 33 → c - 2 ≤ step3 x y c (step2 x y c (step1 x y c n))) := by
  have hl := late_range y.f0
  have a1 : n ≤ step1 x y c n ∧ step1 x y c n ≤ 900 := by
    unfold step1
    rw [wrapS _ (by omega) (by omega)]
    split
    · have := mx_ge n (c + lateOp y.f0); omega
    · omega
  generalize step1 x y c n = m1 at a1
  have a2 : m1 ≤ step2 x y c m1 ∧ step2 x y c m1 ≤ 900 ∧ (x.f0 = 33 → c + 1 ≤ step2 x y c m1) := by
    unfold step2
    rw [wrapS _ (by omega) (by omega)]
    split
    · have := mx_ge m1 (c + 1); omega
    · rename_i h
      exact ⟨by omega, by omega, fun e => absurd (by rw [e]; rfl) h⟩
  generalize step2 x y c m1 = m2 at a2
  unfold step3
  rw [wrapS (c - 2) (by omega) (by omega), wrapS (c + lateOp y.f0) (by omega) (by omega), wrapS (c + lateOp y.f0 - 2) (by omega) (by omega), wrapS (c + lateOp y.f0 - 2 - 1) (by omega) (by omega)]
  split
  · rename_i h
    have := a2.2.2 h
    exact ⟨⟨by omega, by omega⟩, fun _ => this, fun hn => absurd h hn⟩
  · have h1 := mx_ge m2 (c - 2)
    have h2 := mx_ge (mx m2 (c - 2)) (c + lateOp y.f0 - 2 - 1)
    exact ⟨⟨by omega, by omega⟩, fun h => by contradiction, fun _ => by omega⟩
theorem lastUp_bd (hat : ∀ i : Nat, i < l.length → 0 ≤ rd at_ i ∧ rd at_ i ≤ 799) : ∀ (d i : Nat) (n : Int), i + d = l.length → 0 ≤ n → n ≤ 900 → (n ≤ lastUp l at_ x d i n ∧ lastUp l at_ x d i n ≤ 900) ∧
    ∀ j : Nat, i ≤ j → j < l.length → (x.f0 = 33 → rd at_ j + 1 ≤ lastUp l at_ x d i n) ∧ (x.f0 ≠ 33 → rd at_ j - 2 ≤ lastUp l at_ x d i n)
  | 0, i, n, hi, n0, n1 => ⟨⟨Int.le_refl _, n1⟩, fun j h1 h2 => by omega⟩
  | d + 1, i, n, hi, n0, n1 => by
    have hc := hat i (by omega)
    have hs := steps_bd x (q24 l i) (rd at_ i) n hc.1 hc.2 n0 n1
    have ih := lastUp_bd hat d (i + 1) _ (by omega) (by omega) hs.1.2
    rw [lastUp]
    refine ⟨⟨by omega, ih.1.2⟩, fun j h1 h2 => ?_⟩
    by_cases e : j = i
    · subst e
      exact ⟨fun h => by have := hs.2.1 h; omega, fun h => by have := hs.2.2 h; omega⟩
    · exact ih.2 j (by omega) h2
theorem lastOf_bd (hat : ∀ i : Nat, i < l.length → 0 ≤ rd at_ i ∧ rd at_ i ≤ 799) : 0 ≤ lastOf l x at_ ∧ lastOf l x at_ ≤ 900 := by
  unfold lastOf
  split
  · omega
  · have := (lastUp_bd x l at_ hat l.length 0 0 (by omega) (by omega) (by omega)).1; omega
theorem lastOf_ge (hx : x.f0 ≠ 0) (hat : ∀ i : Nat, i < l.length → 0 ≤ rd at_ i ∧ rd at_ i ≤ 799) (j : Nat) (hj : j < l.length) : (x.f0 = 33 → rd at_ j + 1 ≤ lastOf l x at_) ∧ (x.f0 ≠ 33 → rd at_ j - 2 ≤ lastOf l x at_) := by
  unfold lastOf
  rw [if_neg hx]
  exact (lastUp_bd x l at_ hat l.length 0 0 (by omega) (by omega) (by omega)).2 j (by omega) hj
theorem longUp_bd (hat : ∀ i : Nat, i < l.length → 0 ≤ rd at_ i ∧ rd at_ i ≤ 799) : ∀ n, n ≤ l.length → 0 ≤ longUp l at_ n ∧ longUp l at_ n ≤ 900 ∧ ∀ j : Nat, j < n → rd at_ j + lateOp (q24 l j).f0 ≤ longUp l at_ n
  | 0, _ => ⟨Int.le_refl _, by simp [longUp], fun j h => absurd h (Nat.not_lt_zero _)⟩
  | n + 1, hn => by
    have ih := longUp_bd hat n (by omega)
    have hc := hat n (by omega)
    have hl := late_range (q24 l n).f0
    rw [longUp, wrapS _ (by omega) (by omega)]
    have hm := mx_ge (longUp l at_ n) (rd at_ n + lateOp (q24 l n).f0)
    refine ⟨by omega, by omega, fun j hj => ?_⟩
    by_cases e : j = n
    · subst e; omega
    · have := ih.2.2 j (by omega); omega
end
theorem takenUp_mem (at_ sl : List Int) (c s : Int) : ∀ n, takenUp at_ sl c s n = true → ∃ j : Nat, j < n ∧ rd at_ j = c ∧ rd sl j = s
  | 0, h => by simp [takenUp] at h
  | n + 1, h => by
    rw [takenUp, Bool.or_eq_true] at h
    rcases h with h | h
    · obtain ⟨j, h1, h2⟩ := takenUp_mem at_ sl c s n h
      exact ⟨j, by omega, h2⟩
    · simp only [Bool.and_eq_true, beq_iff_eq] at h
      exact ⟨n, by omega, h⟩
theorem freeFrom_ge (at_ sl : List Int) (n : Nat) : ∀ (f : Nat) (c : Int), c ≤ freeFrom at_ sl n f c ∧ freeFrom at_ sl n f c ≤ c + f
  | 0, c => by rw [freeFrom]; omega
  | f + 1, c => by
    rw [freeFrom]
    split
    · have := freeFrom_ge at_ sl n f (c + 1); omega
    · omega
theorem freeFrom_free (at_ sl : List Int) (n : Nat) (M : Int) (hM : ∀ i : Nat, i < n → rd at_ i ≤ M) : ∀ (f : Nat) (c : Int), M < c + f → takenUp at_ sl (freeFrom at_ sl n f c) 0 n = false
  | 0, c, h => by
    rw [freeFrom]
    cases ht : takenUp at_ sl c 0 n with
    | false => rfl
    | true =>
      obtain ⟨j, h1, h2, _⟩ := takenUp_mem _ _ _ _ _ ht
      have := hM j h1
      omega
  | f + 1, c, h => by
    rw [freeFrom]
    split
    · exact freeFrom_free at_ sl n M hM f (c + 1) (by omega)
    · rename_i ht
      simpa using ht
def endC (l : List S24) (x : S24) : Int × Int :=
  if x.f0 = 0 then (-1, longUp l (cycF l).at_ l.length) else (freeFrom (cycF l).at_ (cycF l).sl l.length 1000 (lastOf l x (cycF l).at_),
    if x.f0 = 33 then freeFrom (cycF l).at_ (cycF l).sl l.length 1000 (lastOf l x (cycF l).at_) + 1 else freeFrom (cycF l).at_ (cycF l).sl l.length 1000 (lastOf l x (cycF l).at_) + 1 + 2)
theorem endC_bd {l : List S24} (ho : okA l) (hn : l.length ≤ 200) (x : S24) : 0 ≤ (endC l x).2 ∧ (endC l x).2 ≤ 2000 ∧ (endC l x).1 < (endC l x).2 ∧ (x.f0 ≠ 0 → 0 ≤ (endC l x).1) ∧ ∀ j : Nat, j < l.length → rd (cycF l).at_ j < (endC l x).2 := by
  have hat : ∀ i : Nat, i < l.length → 0 ≤ rd (cycF l).at_ i ∧ rd (cycF l).at_ i ≤ 799 := fun i hi => (cyc_in ho hn i hi).1
  unfold endC
  by_cases h : x.f0 = 0
  · rw [if_pos h]
    have h1 := longUp_bd l (cycF l).at_ hat l.length (Nat.le_refl _)
    refine ⟨h1.1, by show longUp _ _ _ ≤ 2000; omega, by show (-1 : Int) < longUp _ _ _; omega, fun hx => absurd h hx, fun j hj => ?_⟩
    have h2 := h1.2.2 j hj
    have h3 := late_range (q24 l j).f0
    show _ < longUp _ _ _
    omega
  · rw [if_neg h]
    have h1 := lastOf_bd x l (cycF l).at_ hat
    have h2 := freeFrom_ge (cycF l).at_ (cycF l).sl l.length 1000 (lastOf l x (cycF l).at_)
    have h3 := lastOf_ge x l (cycF l).at_ h hat
    generalize freeFrom (cycF l).at_ (cycF l).sl l.length 1000 (lastOf l x (cycF l).at_) = t at h2
    by_cases h33 : x.f0 = 33
    · simp only [if_pos h33]
      exact ⟨by omega, by omega, by omega, fun _ => by omega, fun j hj => by have := (h3 j hj).1 h33; omega⟩
    · simp only [if_neg h33]
      exact ⟨by omega, by omega, by omega, fun _ => by omega, fun j hj => by have := (h3 j hj).2 h33; omega⟩
def put81 (b : S81) (s : Int) (x : S24) : S81 := if s = 0 then ⟨x, b.f1, b.f2, b.f3⟩ else if s = 1 then ⟨b.f0, x, b.f2, b.f3⟩ else if s = 2 then ⟨b.f0, b.f1, x, b.f3⟩ else ⟨b.f0, b.f1, b.f2, x⟩
def bunUp (l : List S24) (at_ sl : List Int) (c : List S81) : Nat → List S81
  | 0 => c
  | i + 1 => (bunUp l at_ sl c i).set (rd at_ i).toNat (put81 (q81 (bunUp l at_ sl c i) (rd at_ i)) (rd sl i) (q24 l i))
theorem bunUp_len (l : List S24) (at_ sl : List Int) (c : List S81) : ∀ i, (bunUp l at_ sl c i).length = c.length
  | 0 => rfl
  | i + 1 => by rw [bunUp, List.length_set, bunUp_len l at_ sl c i]
def bunAll (l : List S24) (x : S24) : List S81 := bunUp l (cycF l).at_ (cycF l).sl (List.replicate (endC l x).2.toNat z81) l.length
def bunF (l : List S24) (x : S24) : List S81 := if 0 ≤ (endC l x).1 then (bunAll l x).set (endC l x).1.toNat (put81 (q81 (bunAll l x) (endC l x).1) 0 x) else bunAll l x
theorem bunAll_len (l : List S24) (x : S24) : (bunAll l x).length = (endC l x).2.toNat := by unfold bunAll; rw [bunUp_len]; simp
end
section
def eqbun76.T6 : Bool × List (List Nat × List Nat) := (true, [([], []), ([], []), ([0, 1], [0, 1]), ([2], [2]), ([], []), ([], []), ([4, 5], [4, 5]), ([6], [6]), ([3, 7], [3, 7])])
def eqbun76.B6 : List Nat := [0, 0, 3, 7, 0, 0, 48, 112, 255]
theorem eqbun76.tab6 : rtab .any (opsOf Try.f76 6) = eqbun76.T6 := by kernel_rfl
theorem eqbun76.bits6 : waitsOk eqbun76.T6.2 eqbun76.B6 = true := by kernel_rfl
def insC (x : S24) : List Value := [.int .i64 x.f0, .int .i64 x.f1, .int .i64 x.f2, .int .i64 x.f3, .int .i64 x.f4, .string x.f5]
def bunC (b : S81) : List Value := insC b.f0 ++ (insC b.f1 ++ (insC b.f2 ++ insC b.f3))
def eqI (x y : S24) : Bool := x.f0 == y.f0 && (x.f1 == y.f1 && (x.f2 == y.f2 && (x.f3 == y.f3 && (x.f4 == y.f4 && (x.f5.toList == y.f5.toList)))))
def eqB (x y : S81) : Bool := eqI x.f0 y.f0 && (eqI x.f1 y.f1 && (eqI x.f2 y.f2 && eqI x.f3 y.f3))
theorem eqI_cons {P : Program} {d : Nat} {e : TypeId} {c j : Nat} {is : List Nat} {xs ys : Array Value} {a b : Value} {r s : Bool} {w : World} (ha : (part e xs (j * c)).run P w = .ok a w) (hb : (part e ys (j * c)).run P w = .ok b w) (he : (Op.equalIn d e a b).run P w = .ok r w) (hr : (Op.eqItems d e c xs ys is).run P w = .ok s w) : (Op.eqItems d e c xs ys (j :: is)).run P w = .ok (r && s) w := by
  simp only [Op.eqItems, Sem.run_bind, ha, hb, he, Result.andThen_ok]
  cases r
  · simp
  · simpa using hr
theorem eqI_last {P : Program} {d : Nat} {e : TypeId} {c j : Nat} {xs ys : Array Value} {a b : Value} {r : Bool} {w : World} (ha : (part e xs (j * c)).run P w = .ok a w) (hb : (part e ys (j * c)).run P w = .ok b w) (he : (Op.equalIn d e a b).run P w = .ok r w) : (Op.eqItems d e c xs ys [j]).run P w = .ok r w := by
  have h := eqI_cons (is := []) (s := true) ha hb he (by simp [Op.eqItems])
  rwa [Bool.and_true] at h
theorem eqA81 (d : Nat) (w : World) (x y : S81) : (Op.equalIn (d + 3) 81 (.agg (bunC x).toArray) (.agg (bunC y).toArray)).run Try.prog w = .ok (eqB x y) w := by
  obtain ⟨i24, hi24, _⟩ := Option.map_eq_some_iff.1 info24
  refine (run_equalIn_array (P := Try.prog) w (d + 2) _ _ Try.underlying81 hi24).trans ?_
  rw [show Try.prog.cellsOf 24 = 6 by kernel_rfl, show List.range 4 = [0, 1, 2, 3] from rfl]
  unfold bunC insC eqB eqI
  refine eqI_cons (by go_simp) (by go_simp) (eqA24 d w _ _ _ _ _ _ _ _ _ _ _ _) ?_
  refine eqI_cons (by go_simp) (by go_simp) (eqA24 d w _ _ _ _ _ _ _ _ _ _ _ _) ?_
  refine eqI_cons (by go_simp) (by go_simp) (eqA24 d w _ _ _ _ _ _ _ _ _ _ _ _) ?_
  exact eqI_last (by go_simp) (by go_simp) (eqA24 d w _ _ _ _ _ _ _ _ _ _ _ _)
theorem run_neq81 (x y : S81) (w : World) : (Go.binOp .neq 81 (.agg (bunC x).toArray) (.agg (bunC y).toArray)).run Try.prog w = .ok (.bool (!eqB x y)) w := by
  have h2 : (Op.equal 81 (.agg (bunC x).toArray) (.agg (bunC y).toArray)).run Try.prog w = .ok (eqB x y) w := eqA81 9997 w x y
  generalize bunC x = X at h2 ⊢
  generalize bunC y = Y at h2 ⊢
  simp [Go.binOp, h2, Result.andThen]
theorem run_load81 {w : World} {ad : Addr} {n : Nat} {xs : List S81} (h : Kd.C k81 w (some ad) n xs) (i : Nat) (hi : i < n) : (Instr.loadAt 81 (.pointer (some (ad.add (i * 24))))).run Try.prog w = .ok (.agg (bunC (q81 xs i)).toArray) w := by
  obtain ⟨ad', c, e, hcl, hK, hc⟩ := Kd.C_get h z81 (i : Int) (Int.natCast_nonneg _) (by omega)
  obtain rfl := Option.some.inj e
  rw [Int.toNat_natCast, show k81.sz = 24 from rfl] at hc
  have hb : xs.getD (i : Int).toNat z81 = q81 xs i := rfl
  rw [hb] at hK
  obtain rfl := k81_open hK
  have hl := run_loadCells_list (P := Try.prog) w (ad.add (i * 24)) (bunC (q81 xs i)) (fun j v hv => by rw [add_add]; exact hc j v hv)
  obtain ⟨i0, hi0, hz⟩ := Option.map_eq_some_iff.1 info81
  simp only [Prod.mk.injEq] at hz
  have hl2 : (loadCells (ad.add (i * 24)) 24).run Try.prog w = .ok (bunC (q81 xs i)).toArray w := hl
  clear hl hc hK
  generalize bunC (q81 xs i) = X at hl2 ⊢
  simp [Instr.loadAt, Instr.sureAddr, loadVar, isAgg, sizeOf, typeInfo, run_underlying Try.underlying81, hi0, hz.2.1, hl2, Result.andThen]
def eqBs (a b : List S81) : Nat → Bool
  | 0 => true
  | n + 1 => eqBs a b n && eqB (q81 a n) (q81 b n)
theorem eqBs_le (a b : List S81) (m : Nat) : ∀ n, m ≤ n → eqBs a b n = true → eqBs a b m = true
  | 0, h, _ => by rw [show m = 0 by omega]; rfl
  | n + 1, h, he => by
    by_cases e : m = n + 1
    · rw [e]; exact he
    · rw [eqBs, Bool.and_eq_true] at he
      exact eqBs_le a b m n (by omega) he.1
def r0_EqBundles.f (k : Nat) (a b : List S81) : Option Bool := if a.length ≤ 1000000000 then some (decide (a.length = b.length) && eqBs a b a.length) else none
theorem r0_EqBundles.calls (k : Nat) (A0 : Option Addr) (c0 : Nat) (l0 : List S81) (A1 : Option Addr) (c1 : Nat) (l1 : List S81) (r : Bool) (w : World) (hr0 : Kd.C k81 w A0 l0.length l0) (hc0 : l0.length ≤ c0) (hr1 : Kd.C k81 w A1 l1.length l1) (hc1 : l1.length ≤ c1) (h : r0_EqBundles.f k l0 l1 = some r) :
    Calls Try.prog 76 #[.slice A0 l0.length c0, .slice A1 l1.length c1] w fun e w' => e = .returned (.bool r) ∧ Dr_ w w' := by
  unfold r0_EqBundles.f at h
  split at h
  · rename_i hmx
    have h := Option.some.inj h
    have H0 := aM_ hr0
    have H1 := aM_ hr1
    clear hr0 hr1
    by_cases hl : l0.length = l1.length
    · have c2 : ((l0.length : Int) == (l1.length : Int)) = true := by rw [hl]; simp
      have c3 : ((l0.length : Int) != (l1.length : Int)) = false := by rw [hl]; simp
      have c4 : (l0.length == l1.length) = true := by simpa using hl
      rw [decide_eq_true hl, Bool.true_and] at h
      have HL := aM_ hl
      have HR := aM_ h
      clear hl h
      go_enter Try.func76, Try.ntmps76
      go_wp2
      go_loopw [5] (fun i wr => ∃ j : Nat, j ≤ l0.length ∧ i = .int .i64 j ∧ As_ (eqBs l0 l1 j = true) ∧ Dr_ w wr) (fun i _ => l0.length - (intOf i).toNat)
      case atStart => exact ⟨0, Nat.zero_le _, rfl, ⟨rfl⟩, Dr_.refl _⟩
      case round =>
        obtain ⟨j, hj, rfl, HE, ⟨m, rfl⟩⟩ := hrel
        by_cases hlt : j < l0.length
        · have hC0 := Kd.C_below H0.out (bN_ (Below.refl _ _) (m + 1))
          have hC1 := Kd.C_below H1.out (bN_ (Below.refl _ _) (m + 1))
          obtain ⟨a0, e0, _⟩ := at_T81 H0.out (j : Int) (Int.natCast_nonneg _) (by omega)
          obtain ⟨a1, e1, _⟩ := at_T81 H1.out (j : Int) (Int.natCast_nonneg _) (by have := HL.out; omega)
          subst e0
          subst e1
          have p1 : ((0 : Int) ≤ (j : Int)) = True := eq_true (Int.natCast_nonneg _)
          have q1 : ((j : Int) < (l0.length : Int)) = True := eq_true (by omega)
          have q2 : ((j : Int) < (l1.length : Int)) = True := eq_true (by have := HL.out; omega)
          have hw2 : wrap64 ((j : Int) + 1) = ((j + 1 : Nat) : Int) := by unfold wrap64; omega
          go_wp2
          refine start_ (n := 9) (S := fun w' => Kd.C k81 w' (some a0) l0.length l0 ∧ Kd.C k81 w' (some a1) l1.length l1) (ds := []) (bm 9 0) (by kernel_rfl) rfl (by kernel_rfl) ⟨hC0, hC1⟩ (fun hHeld => ?_); refine with_tabW eqbun76.tab6 eqbun76.bits6 (fun HT_ HW_ => ?_)
          refine sq_ (k := 0) [(0, some 17, false), (1, some 18, false), (2, some 19, false), (3, some 20, true), (4, some 21, false), (5, some 22, false), (6, some 23, false), (7, some 24, true), (8, some 25, false)] (bm 9 511) rfl (sq_of HT_.out HW_.out (by kernel_rfl)) (fun _ _ _ _ _ h => h) hHeld ?_
          iterate 3 (refine SqOn.pure (v := ?_) (a' := ?_) rfl rfl (Or.inl ⟨by kernel_rfl, ?_⟩) ?_ ?_; rotate_left 2; (focus (intro w'; go_simp; with_reducible rfl)); (focus exact pU_))
          refine SqOn.take (v := .agg (bunC (q81 l0 j)).toArray) (a' := ?_) rfl rfl (Or.inl ⟨by kernel_rfl, ?_⟩) ?_ ?_
          rotate_left
          · rintro w' ⟨s0, s1⟩
            have h_ := run_load81 s0 j hlt
            generalize bunC (q81 l0 j) = X at h_ ⊢
            simp [execOp, Act.eval, h_, Result.andThen]
          · first | (simp only [Act.put, List.setIfInBounds_toArray, List.set_cons_zero, List.set_cons_succ, i64_w, i32_w]; rfl) | rfl
          iterate 3 (refine SqOn.pure (v := ?_) (a' := ?_) rfl rfl (Or.inl ⟨by kernel_rfl, ?_⟩) ?_ ?_; rotate_left 2; (focus (intro w'; go_simp; with_reducible rfl)); (focus exact pU_))
          refine SqOn.take (v := .agg (bunC (q81 l1 j)).toArray) (a' := ?_) rfl rfl (Or.inl ⟨by kernel_rfl, ?_⟩) ?_ ?_
          rotate_left
          · rintro w' ⟨s0, s1⟩
            have h_ := run_load81 s1 j (by have := HL.out; omega)
            generalize bunC (q81 l1 j) = X at h_ ⊢
            simp [execOp, Act.eval, h_, Result.andThen]
          · first | (simp only [Act.put, List.setIfInBounds_toArray, List.set_cons_zero, List.set_cons_succ, i64_w, i32_w]; rfl) | rfl
          refine SqOn.pure (v := .bool (!eqB (q81 l0 j) (q81 l1 j))) (a' := ?_) rfl rfl (Or.inl ⟨by kernel_rfl, ?_⟩) ?_ ?_
          rotate_left
          · intro w'
            have h_ := run_neq81 (q81 l0 j) (q81 l1 j) w'
            generalize bunC (q81 l0 j) = X at h_ ⊢
            generalize bunC (q81 l1 j) = Y at h_ ⊢
            have hg_ : (eqGuard BinOp.neq 81 (.tmp 20) (.tmp 24) (.agg X.toArray) (.agg Y.toArray)).run Try.prog w' = .ok () w' := by
              have hk : Try.prog.eqGuardType Try.prog.depth 81 = false := by kernel_rfl
              simp [eqGuard, hk, Result.andThen]
            simp [execOp, Act.eval, h_, hg_, Result.andThen]
          · first | (simp only [Act.put, List.setIfInBounds_toArray, List.set_cons_zero, List.set_cons_succ, i64_w, i32_w]; rfl) | rfl
          refine SqOn.nil ?_
          refine done_ (done_of HT_.out (by kernel_rfl)) ?_
          clear HT_ HW_ hHeld hC0 hC1
          cases hb : eqB (q81 l0 j) (q81 l1 j) with
          | true =>
            go_wp2
            refine ⟨⟨j + 1, by omega, by congr 1, ⟨by rw [eqBs, HE.out, hb]; rfl⟩, (⟨⟨m, rfl⟩⟩ : Dr_ w (w.drewN m)).step 1⟩, ?_⟩
            simp [intOf]
            omega
          | false =>
            go_wp2
            go_ret
            refine ⟨?_, (⟨⟨m, rfl⟩⟩ : Dr_ w (w.drewN m)).step 1⟩
            have hf : eqBs l0 l1 l0.length = false := by
              cases hx : eqBs l0 l1 l0.length with
              | false => rfl
              | true =>
                have h2 := eqBs_le l0 l1 (j + 1) l0.length hlt hx
                rw [eqBs, hb, Bool.and_false] at h2
                exact h2.symm
            rw [← HR.out, hf]; rfl
        · obtain rfl : j = l0.length := by omega
          have q1 : ((l0.length : Int) < (l0.length : Int)) = False := eq_false (by omega)
          go_wp2
          go_ret
          exact ⟨by rw [← HR.out, HE.out]; rfl, ⟨⟨m, rfl⟩⟩⟩
    · have c2 : ((l0.length : Int) == (l1.length : Int)) = false := by simp; omega
      have c3 : ((l0.length : Int) != (l1.length : Int)) = true := by simp; omega
      have c4 : (l0.length == l1.length) = false := by simpa using hl
      rw [decide_eq_false hl, Bool.false_and] at h
      subst h
      clear hl
      go_enter Try.func76, Try.ntmps76
      go_wp2
      go_ret
      exact ⟨rfl, Dr_.refl _⟩
  · exact absurd h (by simp)
end
end Go.Proofs.Ytibfkkjkahpobaa.PDag
