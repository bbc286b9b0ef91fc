import Derived.Test.YtibfkkjkahpobaaHd15
import Derived.Test.YtibfkkjkahpobaaHd16
import Derived.Test.YtibfkkjkahpobaaHd19
import Derived.Test.YtibfkkjkahpobaaHd17
set_option linter.unusedVariables false
set_option linter.unusedSimpArgs false
set_option maxHeartbeats 8000000
set_option maxRecDepth 100000
open Go.RowKit Go.Proofs.YtibfkkjkahpobaaW.PrintWords Go.Proofs.YtibfkkjkahpobaaW.PrintLast Go.Proofs.YtibfkkjkahpobaaW.PrintMore
namespace Go.Proofs.Ytibfkkjkahpobaa.PDag
section
attribute [local go_sem] max2_int min2_int max_two min_two max_three min_three max_four min_four
mutual
def dag_dist.j0 : Nat → Int → Int → Int → Int → Int → Int → ByteArray → Int → Int → Int → Int → Int → ByteArray → Option (Int)
  | 0, _, _, _, _, _, _, _, _, _, _, _, _, _ => none
  | k + 1, x5, x160a, x160b, x160c, x160d, x160e, x160f, x161a, x161b, x161c, x161d, x161e, x161f => (isa_Effect.f k x160a).bind fun t162 => (if t162 = true then ((isa_Effect.f k x161a).bind fun t163 => (dag_dist.j1 k x5 t163 x160a x160b x160c x160d x160e x160f x161a x161b x161c x161d x161e x161f)) else (dag_dist.j1 k x5 false x160a x160b x160c x160d x160e x160f x161a x161b x161c x161d x161e x161f))
def dag_dist.j1 : Nat → Int → Bool → Int → Int → Int → Int → Int → ByteArray → Int → Int → Int → Int → Int → ByteArray → Option (Int)
  | 0, _, _, _, _, _, _, _, _, _, _, _, _, _, _ => none
  | k + 1, x5, x16, x160a, x160b, x160c, x160d, x160e, x160f, x161a, x161b, x161c, x161d, x161e, x161f => if x16 = true then (dag_dist.j2 k 1 x160a x160b x160c x160d x160e x160f x161a x161b x161c x161d x161e x161f) else (dag_dist.j2 k x5 x160a x160b x160c x160d x160e x160f x161a x161b x161c x161d x161e x161f)
def dag_dist.j2 : Nat → Int → Int → Int → Int → Int → Int → ByteArray → Int → Int → Int → Int → Int → ByteArray → Option (Int)
  | 0, _, _, _, _, _, _, _, _, _, _, _, _, _ => none
  | k + 1, x5, x160a, x160b, x160c, x160d, x160e, x160f, x161a, x161b, x161c, x161d, x161e, x161f => (dag_reads.f k x161a x161b x161c x161d x161e x161f x160a x160b x160c x160d x160e x160f).bind fun t164 => (if t164 = true then (dag_dist.j3 k x5 true x160a x160b x160c x160d x160e x160f) else ((isa_Shape.f k x161a).bind fun t165 => ((isa_HasD.f t165).bind fun t166 => (if t166 = true then ((dag_writes.f k x160a x160b x160c x160d x160e x160f x161b).bind fun t167 => (dag_dist.j3 k x5 t167 x160a x160b x160c x160d x160e x160f)) else (dag_dist.j3 k x5 false x160a x160b x160c x160d x160e x160f)))))
def dag_dist.j3 : Nat → Int → Bool → Int → Int → Int → Int → Int → ByteArray → Option (Int)
  | 0, _, _, _, _, _, _, _, _ => none
  | k + 1, x5, x31, x160a, x160b, x160c, x160d, x160e, x160f => if x31 = true then ((isa_Late.f k x160a).bind fun t168 => (some (mx x5 t168))) else (some x5)
end
def dag_dist.f (k : Nat) (a0_0 : Int) (a0_1 : Int) (a0_2 : Int) (a0_3 : Int) (a0_4 : Int) (a0_5 : ByteArray) (a1_0 : Int) (a1_1 : Int) (a1_2 : Int) (a1_3 : Int) (a1_4 : Int) (a1_5 : ByteArray) : Option (Int) := (dag_reads.f k a0_0 a0_1 a0_2 a0_3 a0_4 a0_5 a1_0 a1_1 a1_2 a1_3 a1_4 a1_5).bind fun t161 => (if t161 = true then (dag_dist.j0 k 0 a0_0 a0_1 a0_2 a0_3 a0_4 a0_5 a1_0 a1_1 a1_2 a1_3 a1_4 a1_5) else (dag_dist.j0 k (-1) a0_0 a0_1 a0_2 a0_3 a0_4 a0_5 a1_0 a1_1 a1_2 a1_3 a1_4 a1_5))
theorem dag_dist.calls (k : Nat) (a0_0 : Int) (a0_1 : Int) (a0_2 : Int) (a0_3 : Int) (a0_4 : Int) (a0_5 : ByteArray) (a1_0 : Int) (a1_1 : Int) (a1_2 : Int) (a1_3 : Int) (a1_4 : Int) (a1_5 : ByteArray) (r : Int) (w : World) (h : dag_dist.f k a0_0 a0_1 a0_2 a0_3 a0_4 a0_5 a1_0 a1_1 a1_2 a1_3 a1_4 a1_5 = some r) :
    Calls Try.prog 91 #[.agg #[.int .i64 a0_0, .int .i64 a0_1, .int .i64 a0_2, .int .i64 a0_3, .int .i64 a0_4, .string a0_5], .agg #[.int .i64 a1_0, .int .i64 a1_1, .int .i64 a1_2, .int .i64 a1_3, .int .i64 a1_4, .string a1_5]] w fun e w' => e = .returned (.int .i64 r) ∧ Below w.heap.size w w' := by
 have hu24 := Try.underlying24; have HB := aM_ (Below.refl w.heap.size w); have H : ((dag_reads.f k a0_0 a0_1 a0_2 a0_3 a0_4 a0_5 a1_0 a1_1 a1_2 a1_3 a1_4 a1_5).bind fun t161 => (if t161 = true then (dag_dist.j0 k 0 a0_0 a0_1 a0_2 a0_3 a0_4 a0_5 a1_0 a1_1 a1_2 a1_3 a1_4 a1_5) else (dag_dist.j0 k (-1) a0_0 a0_1 a0_2 a0_3 a0_4 a0_5 a1_0 a1_1 a1_2 a1_3 a1_4 a1_5))) = some r := h; clear h; obtain ⟨t161, A3, H⟩ := oB_ H; have HC4 := aM_ H; clear H; go_enter Try.func91, Try.ntmps91
 go_upto_if 8 with (first | ((with_reducible refine gate_dst (N := 2) rfl ?_); refine bX_ (N := 2) (cs := #[.int .i64 a0_0, .int .i64 a0_1, .int .i64 a0_2, .int .i64 a0_3, .int .i64 a0_4, .string a0_5]) (t := 24) ?_; intro gb159 hg w5 hbox hb; replace BK159 := aM_ (hbox); replace GW159 := aM_ (gE_ hg (bl_ HB)); replace GE159 := aM_ (gE_ hg (bl_ HB)); replace HB := aM_ (bT_ (bl_ HB) hb); clear hb hbox hg) | ((with_reducible refine gate_dst (N := 3) rfl ?_); refine bX_ (N := 3) (cs := #[.int .i64 a1_0, .int .i64 a1_1, .int .i64 a1_2, .int .i64 a1_3, .int .i64 a1_4, .string a1_5]) (t := 24) ?_; intro gb160 hg w6 hbox hb; replace BK160 := aM_ (hbox); replace GW160 := aM_ (gE_ hg (bs_ HB GE159)); replace GE160 := aM_ (gE_ hg (bs_ HB GE159)); replace HB := aM_ (bT_ (bs_ HB GE159) hb); replace NB159_160 := aM_ ((by rw [hg]; exact Nat.ne_of_lt (blk_lt (g := gb159) (o := .cells #[.int .i64 a0_0, .int .i64 a0_1, .int .i64 a0_2, .int .i64 a0_3, .int .i64 a0_4, .string a0_5] 24 (0, 0)) (rB_ BK159)) : gb159 ≠ gb160)); replace NB160_159 := aM_ ((by rw [hg]; exact Nat.ne_of_gt (blk_lt (g := gb159) (o := .cells #[.int .i64 a0_0, .int .i64 a0_1, .int .i64 a0_2, .int .i64 a0_3, .int .i64 a0_4, .string a0_5] 24 (0, 0)) (rB_ BK159)) : gb160 ≠ gb159)); replace BK159 := aM_ (kB_ (rB_ BK159) hb); clear hb hbox hg; have hnb7 := NB159_160.out; have hnc7 := NB160_159.out; obtain ⟨hcz8_0, hcz8_1, hcz8_2, hcz8_3, hcz8_4, hcz8_5⟩ := cl6_ BK159.out; obtain ⟨hfz8_0, hfz8_1, hfz8_2, hfz8_3, hfz8_4, hfz8_5⟩ := fz6_ BK159.out; obtain ⟨hcz9_0, hcz9_1, hcz9_2, hcz9_3, hcz9_4, hcz9_5⟩ := cl6_ BK160.out; obtain ⟨hfz9_0, hfz9_1, hfz9_2, hfz9_3, hfz9_4, hfz9_5⟩ := fz6_ BK160.out) | ((with_reducible refine gC_ (f := 103) rfl ?_); refine gL_ (some 8) Try.func103 #[.agg #[.int .i64 a0_0, .int .i64 a0_1, .int .i64 a0_2, .int .i64 a0_3, .int .i64 a0_4, .string a0_5], .agg #[.int .i64 a1_0, .int .i64 a1_1, .int .i64 a1_2, .int .i64 a1_3, .int .i64 a1_4, .string a1_5]] rfl ?_; (with_reducible refine (dag_reads.calls k a0_0 a0_1 a0_2 a0_3 a0_4 a0_5 a1_0 a1_1 a1_2 a1_3 a1_4 a1_5 t161 _ A3.out).mono ?_); rintro e w10 ⟨rfl, hb⟩; refine ⟨_, rfl, ?_⟩; replace BK159 := aM_ (kB_ (rB_ BK159) hb); replace BK160 := aM_ (kB_ (rB_ BK160) hb); replace HB := aM_ (bT_ (bt_ HB GE159 GE160) hb)))
 (try simp only [Act.put, List.setIfInBounds_toArray, List.set_cons_zero, List.set_cons_succ])
 go_cut [5] (fun v5 wc => ∃ (kq : Nat) (x5_3 : Int), v5 = .int .i64 x5_3 ∧ As_ (dag_dist.j0 kq x5_3 a0_0 a0_1 a0_2 a0_3 a0_4 a0_5 a1_0 a1_1 a1_2 a1_3 a1_4 a1_5 = some r) ∧ As_ (kq ≤ k) ∧ As_ (wc.heap[gb159]? = some (.cells #[.int .i64 a0_0, .int .i64 a0_1, .int .i64 a0_2, .int .i64 a0_3, .int .i64 a0_4, .string a0_5] 24 (0, 0))) ∧ As_ (wc.heap[gb160]? = some (.cells #[.int .i64 a1_0, .int .i64 a1_1, .int .i64 a1_2, .int .i64 a1_3, .int .i64 a1_4, .string a1_5] 24 (0, 0))) ∧ As_ (Below w.heap.size w wc))
 case first =>
  have H := HC4.out; clear HC4
  by_cases c11 : t161 = true
  ·subst c11; rw [if_pos rfl] at H; replace H := aM_ H; go_wp2
   go_meet
   case rel => exact ⟨_, (0), eQ_, H, ⟨by first | omega | exact Nat.le_refl _⟩, ⟨rB_ BK159⟩, ⟨rB_ BK160⟩, ⟨bt_ HB GE159 GE160⟩⟩
  replace c11 := eF_ c11; subst c11; rw [if_neg Bool.false_ne_true] at H; replace H := aM_ H; go_wp2
  go_meet
  case rel => exact ⟨_, ((-1)), eQ_, H, ⟨by first | omega | exact Nat.le_refl _⟩, ⟨rB_ BK159⟩, ⟨rB_ BK160⟩, ⟨bt_ HB GE159 GE160⟩⟩
 case rest =>
  clear HC4; obtain ⟨kq, x5_3, rfl, HA, HJ3, BK159, BK160, HB⟩ := hcut
  cases kq with
  | zero => exact absurd HA.out (by simp [dag_dist.j0])
  | succ kj3 =>
   have H := HA.out; clear HA; simp only [dag_dist.j0] at H; have HC12 := aM_ H; clear H
   go_upto_region 4 with (fail)
   go_cut [16] (fun v16 wc => ∃ (kq : Nat) (x16_11 : Bool), v16 = .bool x16_11 ∧ As_ (dag_dist.j1 kq x5_3 x16_11 a0_0 a0_1 a0_2 a0_3 a0_4 a0_5 a1_0 a1_1 a1_2 a1_3 a1_4 a1_5 = some r) ∧ As_ (kq ≤ kj3) ∧ As_ (wc.heap[gb159]? = some (.cells #[.int .i64 a0_0, .int .i64 a0_1, .int .i64 a0_2, .int .i64 a0_3, .int .i64 a0_4, .string a0_5] 24 (0, 0))) ∧ As_ (wc.heap[gb160]? = some (.cells #[.int .i64 a1_0, .int .i64 a1_1, .int .i64 a1_2, .int .i64 a1_3, .int .i64 a1_4, .string a1_5] 24 (0, 0))) ∧ As_ (Below w.heap.size w wc))
   case first =>
    have H := HC12.out; clear HC12; obtain ⟨t162, A13, H⟩ := oB_ H
    by_cases c14 : t162 = true
    ·subst c14; rw [if_pos rfl] at H; obtain ⟨t163, A15, H⟩ := oB_ H; replace H := aM_ H; have hnb16 := NB159_160.out; have hnc16 := NB160_159.out; obtain ⟨hcz17_0, hcz17_1, hcz17_2, hcz17_3, hcz17_4, hcz17_5⟩ := cl6_ BK159.out; obtain ⟨hfz17_0, hfz17_1, hfz17_2, hfz17_3, hfz17_4, hfz17_5⟩ := fz6_ BK159.out
     go_wp2_with (first | ((with_reducible refine gC_ (f := 94) rfl ?_); refine gL_ (some 11) Try.func94 #[.int .i64 a0_0] rfl ?_; (with_reducible refine (isa_Effect.calls kj3 a0_0 true _ A13.out).mono ?_); rintro e w' ⟨rfl, ⟨nd, rfl⟩⟩; refine ⟨_, rfl, ?_⟩; obtain ⟨hcz18_0, hcz18_1, hcz18_2, hcz18_3, hcz18_4, hcz18_5⟩ := cl6_ BK160.out; obtain ⟨hfz18_0, hfz18_1, hfz18_2, hfz18_3, hfz18_4, hfz18_5⟩ := fz6_ BK160.out) | (go_at_call 94; (with_reducible refine (isa_Effect.calls kj3 a1_0 t163 _ A15.out).mono ?_); rintro e w' ⟨rfl, ⟨nd, rfl⟩⟩))
     go_meet
     case rel => exact ⟨_, (t163), eQ_, H, ⟨by have := HJ3.out; first | omega | exact Nat.le_refl _⟩, ⟨rB_ BK159⟩, ⟨rB_ BK160⟩, ⟨bt_ HB GE159 GE160⟩⟩
    replace c14 := eF_ c14; subst c14; rw [if_neg Bool.false_ne_true] at H; replace H := aM_ H; have hnb19 := NB159_160.out; have hnc19 := NB160_159.out; obtain ⟨hcz20_0, hcz20_1, hcz20_2, hcz20_3, hcz20_4, hcz20_5⟩ := cl6_ BK159.out; obtain ⟨hfz20_0, hfz20_1, hfz20_2, hfz20_3, hfz20_4, hfz20_5⟩ := fz6_ BK159.out
    go_wp2_with (first | ((with_reducible refine gC_ (f := 94) rfl ?_); refine gL_ (some 11) Try.func94 #[.int .i64 a0_0] rfl ?_; (with_reducible refine (isa_Effect.calls kj3 a0_0 false _ A13.out).mono ?_); rintro e w' ⟨rfl, ⟨nd, rfl⟩⟩; refine ⟨_, rfl, ?_⟩))
    go_meet
    case rel => exact ⟨_, (false), eQ_, H, ⟨by have := HJ3.out; first | omega | exact Nat.le_refl _⟩, ⟨rB_ BK159⟩, ⟨rB_ BK160⟩, ⟨bt_ HB GE159 GE160⟩⟩
   case rest =>
    clear HC12; obtain ⟨kq, x16_11, rfl, HA, HJ11, BK159, BK160, HB⟩ := hcut
    cases kq with
    | zero => exact absurd HA.out (by simp [dag_dist.j1])
    | succ kj11 =>
     have H := HA.out; clear HA; simp only [dag_dist.j1] at H; have HC21 := aM_ H; clear H
     go_upto_if 16 with (fail)
     go_cut [5] (fun v5 wc => ∃ (kq : Nat) (x5_20 : Int), v5 = .int .i64 x5_20 ∧ As_ (dag_dist.j2 kq x5_20 a0_0 a0_1 a0_2 a0_3 a0_4 a0_5 a1_0 a1_1 a1_2 a1_3 a1_4 a1_5 = some r) ∧ As_ (kq ≤ kj11) ∧ As_ (wc.heap[gb159]? = some (.cells #[.int .i64 a0_0, .int .i64 a0_1, .int .i64 a0_2, .int .i64 a0_3, .int .i64 a0_4, .string a0_5] 24 (0, 0))) ∧ As_ (wc.heap[gb160]? = some (.cells #[.int .i64 a1_0, .int .i64 a1_1, .int .i64 a1_2, .int .i64 a1_3, .int .i64 a1_4, .string a1_5] 24 (0, 0))) ∧ As_ (Below w.heap.size w wc))
     case first =>
      have H := HC21.out; clear HC21
      by_cases c22 : x16_11 = true
      ·subst c22; rw [if_pos rfl] at H; replace H := aM_ H; go_wp2
       go_meet
       case rel => exact ⟨_, (1), eQ_, H, ⟨by have := HJ3.out; have := HJ11.out; first | omega | exact Nat.le_refl _⟩, ⟨rB_ BK159⟩, ⟨rB_ BK160⟩, ⟨bt_ HB GE159 GE160⟩⟩
      replace c22 := eF_ c22; subst c22; rw [if_neg Bool.false_ne_true] at H; replace H := aM_ H; go_wp2
      go_meet
      case rel => exact ⟨_, (x5_3), eQ_, H, ⟨by have := HJ3.out; have := HJ11.out; first | omega | exact Nat.le_refl _⟩, ⟨rB_ BK159⟩, ⟨rB_ BK160⟩, ⟨bt_ HB GE159 GE160⟩⟩
     case rest =>
      clear HC21; obtain ⟨kq, x5_20, rfl, HA, HJ20, BK159, BK160, HB⟩ := hcut
      cases kq with
      | zero => exact absurd HA.out (by simp [dag_dist.j2])
      | succ kj20 =>
       have H := HA.out; clear HA; simp only [dag_dist.j2] at H; have HC23 := aM_ H; clear H
       go_upto_region 6 with (fail)
       go_cut [31] (fun v31 wc => ∃ (kq : Nat) (x31_22 : Bool), v31 = .bool x31_22 ∧ As_ (dag_dist.j3 kq x5_20 x31_22 a0_0 a0_1 a0_2 a0_3 a0_4 a0_5 = some r) ∧ As_ (kq ≤ kj20) ∧ As_ (wc.heap[gb159]? = some (.cells #[.int .i64 a0_0, .int .i64 a0_1, .int .i64 a0_2, .int .i64 a0_3, .int .i64 a0_4, .string a0_5] 24 (0, 0))) ∧ As_ (wc.heap[gb160]? = some (.cells #[.int .i64 a1_0, .int .i64 a1_1, .int .i64 a1_2, .int .i64 a1_3, .int .i64 a1_4, .string a1_5] 24 (0, 0))) ∧ As_ (Below w.heap.size w wc))
       case first =>
        have H := HC23.out; clear HC23; obtain ⟨t164, A24, H⟩ := oB_ H
        by_cases c25 : t164 = true
        ·subst c25; rw [if_pos rfl] at H; replace H := aM_ H; have hnb26 := NB160_159.out; have hnc26 := NB159_160.out; obtain ⟨hcz27_0, hcz27_1, hcz27_2, hcz27_3, hcz27_4, hcz27_5⟩ := cl6_ BK160.out; obtain ⟨hfz27_0, hfz27_1, hfz27_2, hfz27_3, hfz27_4, hfz27_5⟩ := fz6_ BK160.out; obtain ⟨hcz28_0, hcz28_1, hcz28_2, hcz28_3, hcz28_4, hcz28_5⟩ := cl6_ BK159.out; obtain ⟨hfz28_0, hfz28_1, hfz28_2, hfz28_3, hfz28_4, hfz28_5⟩ := fz6_ BK159.out
         go_wp2_with (first | ((with_reducible refine gC_ (f := 103) rfl ?_); refine gL_ (some 19) Try.func103 #[.agg #[.int .i64 a1_0, .int .i64 a1_1, .int .i64 a1_2, .int .i64 a1_3, .int .i64 a1_4, .string a1_5], .agg #[.int .i64 a0_0, .int .i64 a0_1, .int .i64 a0_2, .int .i64 a0_3, .int .i64 a0_4, .string a0_5]] rfl ?_; (with_reducible refine (dag_reads.calls kj20 a1_0 a1_1 a1_2 a1_3 a1_4 a1_5 a0_0 a0_1 a0_2 a0_3 a0_4 a0_5 true _ A24.out).mono ?_); rintro e w29 ⟨rfl, hb⟩; refine ⟨_, rfl, ?_⟩; replace BK159 := aM_ (kB_ (rB_ BK159) hb); replace BK160 := aM_ (kB_ (rB_ BK160) hb); replace HB := aM_ (bT_ (bt_ HB GE159 GE160) hb)))
         go_meet
         case rel => exact ⟨_, (true), eQ_, H, ⟨by have := HJ3.out; have := HJ11.out; have := HJ20.out; first | omega | exact Nat.le_refl _⟩, ⟨rB_ BK159⟩, ⟨rB_ BK160⟩, ⟨bt_ HB GE159 GE160⟩⟩
        replace c25 := eF_ c25; subst c25; rw [if_neg Bool.false_ne_true] at H; obtain ⟨t165, A30, H⟩ := oB_ H; obtain ⟨t166, A31, H⟩ := oB_ H
        by_cases c32 : t166 = true
        ·subst c32; rw [if_pos rfl] at H; obtain ⟨t167, A33, H⟩ := oB_ H; replace H := aM_ H; have hnb34 := NB160_159.out; have hnc34 := NB159_160.out; obtain ⟨hcz35_0, hcz35_1, hcz35_2, hcz35_3, hcz35_4, hcz35_5⟩ := cl6_ BK160.out; obtain ⟨hfz35_0, hfz35_1, hfz35_2, hfz35_3, hfz35_4, hfz35_5⟩ := fz6_ BK160.out; obtain ⟨hcz36_0, hcz36_1, hcz36_2, hcz36_3, hcz36_4, hcz36_5⟩ := cl6_ BK159.out; obtain ⟨hfz36_0, hfz36_1, hfz36_2, hfz36_3, hfz36_4, hfz36_5⟩ := fz6_ BK159.out
         go_wp2_with (first | ((with_reducible refine gC_ (f := 103) rfl ?_); refine gL_ (some 19) Try.func103 #[.agg #[.int .i64 a1_0, .int .i64 a1_1, .int .i64 a1_2, .int .i64 a1_3, .int .i64 a1_4, .string a1_5], .agg #[.int .i64 a0_0, .int .i64 a0_1, .int .i64 a0_2, .int .i64 a0_3, .int .i64 a0_4, .string a0_5]] rfl ?_; (with_reducible refine (dag_reads.calls kj20 a1_0 a1_1 a1_2 a1_3 a1_4 a1_5 a0_0 a0_1 a0_2 a0_3 a0_4 a0_5 false _ A24.out).mono ?_); rintro e w37 ⟨rfl, hb⟩; refine ⟨_, rfl, ?_⟩; replace BK159 := aM_ (kB_ (rB_ BK159) hb); replace BK160 := aM_ (kB_ (rB_ BK160) hb); replace HB := aM_ (bT_ (bt_ HB GE159 GE160) hb); obtain ⟨hcz38_0, hcz38_1, hcz38_2, hcz38_3, hcz38_4, hcz38_5⟩ := cl6_ BK160.out; obtain ⟨hfz38_0, hfz38_1, hfz38_2, hfz38_3, hfz38_4, hfz38_5⟩ := fz6_ BK160.out) | (go_at_call 97; (with_reducible refine (isa_Shape.calls kj20 a1_0 t165 _ A30.out).mono ?_); rintro e w' ⟨rfl, ⟨nd, rfl⟩⟩) | (go_at_call 99; (with_reducible refine (isa_HasD.calls t165 true _ A31.out).mono ?_); rintro e w' ⟨rfl, ⟨nd, rfl⟩⟩; obtain ⟨hcz39_0, hcz39_1, hcz39_2, hcz39_3, hcz39_4, hcz39_5⟩ := cl6_ BK159.out; obtain ⟨hfz39_0, hfz39_1, hfz39_2, hfz39_3, hfz39_4, hfz39_5⟩ := fz6_ BK159.out) | (go_at_call 115; (with_reducible refine (dag_writes.calls kj20 a0_0 a0_1 a0_2 a0_3 a0_4 a0_5 a1_1 t167 _ A33.out).mono ?_); rintro e w40 ⟨rfl, hb⟩; replace BK159 := aM_ (kB_ (rB_ BK159) hb); replace BK160 := aM_ (kB_ (rB_ BK160) hb); replace HB := aM_ (bT_ (bt_ HB GE159 GE160) hb)))
         go_meet
         case rel => exact ⟨_, (t167), eQ_, H, ⟨by have := HJ3.out; have := HJ11.out; have := HJ20.out; first | omega | exact Nat.le_refl _⟩, ⟨rB_ BK159⟩, ⟨rB_ BK160⟩, ⟨bt_ HB GE159 GE160⟩⟩
        replace c32 := eF_ c32; subst c32; rw [if_neg Bool.false_ne_true] at H; replace H := aM_ H; have hnb41 := NB160_159.out; have hnc41 := NB159_160.out; obtain ⟨hcz42_0, hcz42_1, hcz42_2, hcz42_3, hcz42_4, hcz42_5⟩ := cl6_ BK160.out; obtain ⟨hfz42_0, hfz42_1, hfz42_2, hfz42_3, hfz42_4, hfz42_5⟩ := fz6_ BK160.out; obtain ⟨hcz43_0, hcz43_1, hcz43_2, hcz43_3, hcz43_4, hcz43_5⟩ := cl6_ BK159.out; obtain ⟨hfz43_0, hfz43_1, hfz43_2, hfz43_3, hfz43_4, hfz43_5⟩ := fz6_ BK159.out
        go_wp2_with (first | ((with_reducible refine gC_ (f := 103) rfl ?_); refine gL_ (some 19) Try.func103 #[.agg #[.int .i64 a1_0, .int .i64 a1_1, .int .i64 a1_2, .int .i64 a1_3, .int .i64 a1_4, .string a1_5], .agg #[.int .i64 a0_0, .int .i64 a0_1, .int .i64 a0_2, .int .i64 a0_3, .int .i64 a0_4, .string a0_5]] rfl ?_; (with_reducible refine (dag_reads.calls kj20 a1_0 a1_1 a1_2 a1_3 a1_4 a1_5 a0_0 a0_1 a0_2 a0_3 a0_4 a0_5 false _ A24.out).mono ?_); rintro e w44 ⟨rfl, hb⟩; refine ⟨_, rfl, ?_⟩; replace BK159 := aM_ (kB_ (rB_ BK159) hb); replace BK160 := aM_ (kB_ (rB_ BK160) hb); replace HB := aM_ (bT_ (bt_ HB GE159 GE160) hb); obtain ⟨hcz45_0, hcz45_1, hcz45_2, hcz45_3, hcz45_4, hcz45_5⟩ := cl6_ BK160.out; obtain ⟨hfz45_0, hfz45_1, hfz45_2, hfz45_3, hfz45_4, hfz45_5⟩ := fz6_ BK160.out) | (go_at_call 97; (with_reducible refine (isa_Shape.calls kj20 a1_0 t165 _ A30.out).mono ?_); rintro e w' ⟨rfl, ⟨nd, rfl⟩⟩) | (go_at_call 99; (with_reducible refine (isa_HasD.calls t165 false _ A31.out).mono ?_); rintro e w' ⟨rfl, ⟨nd, rfl⟩⟩))
        go_meet
        case rel => exact ⟨_, (false), eQ_, H, ⟨by have := HJ3.out; have := HJ11.out; have := HJ20.out; first | omega | exact Nat.le_refl _⟩, ⟨rB_ BK159⟩, ⟨rB_ BK160⟩, ⟨bt_ HB GE159 GE160⟩⟩
       case rest =>
        clear HC23; obtain ⟨kq, x31_22, rfl, HA, HJ22, BK159, BK160, HB⟩ := hcut
        cases kq with
        | zero => exact absurd HA.out (by simp [dag_dist.j3])
        | succ kj22 =>
         have H := HA.out; clear HA; simp only [dag_dist.j3] at H
         by_cases c46 : x31_22 = true
         ·subst c46; rw [if_pos rfl] at H; obtain ⟨t168, A47, H⟩ := oB_ H; obtain ⟨ji48, hji48⟩ : ∃ j_ : Int, (mx x5_20 t168) = j_ := ⟨_, rfl⟩
          replace H : (some ji48) = some r := by first | (rw [hji48] at H; exact H) | (simp only [hji48] at H ⊢; exact H)
          (try rw [hji48] at A47)
          have hji48_ : (if x5_20 < t168 then t168 else x5_20) = ji48 := hji48; obtain rfl := oI_ H; have hnb49 := NB159_160.out; have hnc49 := NB160_159.out; obtain ⟨hcz50_0, hcz50_1, hcz50_2, hcz50_3, hcz50_4, hcz50_5⟩ := cl6_ BK159.out; obtain ⟨hfz50_0, hfz50_1, hfz50_2, hfz50_3, hfz50_4, hfz50_5⟩ := fz6_ BK159.out
          go_wp2_with (first | ((with_reducible refine gC_ (f := 92) rfl ?_); refine gL_ (some 35) Try.func92 #[.int .i64 a0_0] rfl ?_; (with_reducible refine (isa_Late.calls kj22 a0_0 t168 _ A47.out).mono ?_); rintro e w' ⟨rfl, ⟨nd, rfl⟩⟩; refine ⟨_, rfl, ?_⟩))
          go_ret; exact ⟨by first | rfl | (simp [eN_, eS_] <;> rfl) | (simp only [← hji48]; first | rfl | (simp [eN_, eS_] <;> rfl)) | (simp [*, eN_, eS_] <;> rfl), bt_ HB GE159 GE160⟩
         replace c46 := eF_ c46; subst c46; rw [if_neg Bool.false_ne_true] at H; obtain rfl := oI_ H; go_wp2; go_ret; exact ⟨eR_, bt_ HB GE159 GE160⟩
end
section
attribute [local go_sem] max2_int min2_int max_two min_two max_three min_three max_four min_four
attribute [local go_sem high] eqA51
mutual
def dag_Edges.l0 : Nat → List (S24) → List (S51) → List (S24) → Int → Int → Option ((List (S51)))
  | 0, _, _, _, _, _ => none
  | k + 1, x0, x2, x8, x9, x10 => if x10 < x9 then (if 0 ≤ x10 then (if x10 < (x8.length : Int) then (if 0 ≤ (wrap64 (x10 + 1)) then (if (wrap64 (x10 + 1)) ≤ (x0.length : Int) then ((some (x0.drop ((wrap64 (x10 + 1)) : Int).toNat : List (S24))).bind fun y171 => (dag_Edges.l1 k x0 x2 x10 x8 x9 x10 y171 (y171.length : Int) 0 ((J24 x8 x10).f0) ((J24 x8 x10).f1) ((J24 x8 x10).f2) ((J24 x8 x10).f3) ((J24 x8 x10).f4) ((J24 x8 x10).f5))) else (none)) else (none)) else (none)) else (none)) else (some x2)
def dag_Edges.l1 : Nat → List (S24) → List (S51) → Int → List (S24) → Int → Int → List (S24) → Int → Int → Int → Int → Int → Int → Int → ByteArray → Option ((List (S51)))
  | 0, _, _, _, _, _, _, _, _, _, _, _, _, _, _, _ => none
  | k + 1, x0, x2, x3, x8, x9, x10, x18, x19, x20, x171a, x171b, x171c, x171d, x171e, x171f => if x20 < x19 then (if 0 ≤ x20 then (if x20 < (x18.length : Int) then ((dag_dist.f k x171a x171b x171c x171d x171e x171f ((J24 x18 x20).f0) ((J24 x18 x20).f1) ((J24 x18 x20).f2) ((J24 x18 x20).f3) ((J24 x18 x20).f4) ((J24 x18 x20).f5)).bind fun t177 => (if t177 ≥ 0 then (if x2.length < 5864062014805 then (dag_Edges.l1 k x0 (x2 ++ [(⟨x3, wrap64 ((wrap64 (x3 + 1)) + x20), t177⟩ : S51)]) x3 x8 x9 x10 x18 x19 (wrap64 (x20 + 1)) x171a x171b x171c x171d x171e x171f) else (none)) else (dag_Edges.l1 k x0 x2 x3 x8 x9 x10 x18 x19 (wrap64 (x20 + 1)) x171a x171b x171c x171d x171e x171f))) else (none)) else (none)) else (dag_Edges.l0 k x0 x2 x8 x9 (wrap64 (x10 + 1)))
end
def dag_Edges.f (k : Nat) (l0 : List (S24)) : Option ((List (S51))) := dag_Edges.l0 k l0 ([] : List (S51)) l0 (l0.length : Int) 0
theorem dag_Edges.calls (k : Nat) (A0 : Option Addr) (c0 : Nat) (l0 : List (S24)) (r : List (S51)) (w : World) (hr0 : Kd.C k24 w A0 l0.length l0) (hc0 : l0.length ≤ c0) (h : dag_Edges.f k l0 = some r) :
    Calls Try.prog 56 #[.slice A0 l0.length c0] w fun e w' => ∃ v0_ : Value, e = .returned (v0_) ∧ Kd.R k51 51 w' w.heap.size (fun _ => True) v0_ r ∧ Below w.heap.size w w' := by
 have hu24 := Try.underlying24; have hu51 := Try.underlying51; have HR0 := aM_ hr0; have HC0 := aM_ hc0; clear hr0 hc0; have HB := aM_ (Below.refl w.heap.size w); have H : (dag_Edges.l0 k l0 ([] : List (S51)) l0 (l0.length : Int) 0) = some r := h; clear h; replace H := aM_ H; go_enter Try.func56, Try.ntmps56; go_wp2
 go_loopg [2, 10] k (fun kq v2 v10 w' => ∃ (x2_1 : List (S51)) (x10_1 : Int), v10 = .int .i64 x10_1 ∧ As_ (dag_Edges.l0 kq l0 x2_1 l0 (l0.length : Int) x10_1 = some r) ∧ As_ (kq ≤ k) ∧ As_ (Kd.R k51 51 w' w.heap.size (fun _ => True) v2 x2_1) ∧ As_ (Below w.heap.size w w'))
 case atStart => exact ⟨(([] : List (S51))), (0), eQ_, H, ⟨Nat.le_refl _⟩, ⟨by first | exact Kd.R_nil _ _ _ _ _ | exact Kd.N_nil _ _ _ _ _ | exact Kd.V_nil _ _ _ _ _ | exact Kd.Q_nil _ _ _ _ _ | exact Kd.S_nil _ _ _ _ _⟩, ⟨bl_ HB⟩⟩
 case round =>
  clear H; obtain ⟨x2_1, x10_1, rfl, HA, HK1, HO_2, HB⟩ := hrel
  cases gk with
  | zero => exact absurd HA.out (by simp [dag_Edges.l0])
  | succ k1 =>
   have H := HA.out; clear HA; simp only [dag_Edges.l0] at H
   by_cases c2 : x10_1 < (l0.length : Int)
   ·rw [if_pos c2] at H; have c2b0 := dE_ c2; clear c2
    by_cases c3 : 0 ≤ x10_1
    ·rw [if_pos c3] at H; have c3b0 := dE_ c3; clear c3
     by_cases c4 : x10_1 < (l0.length : Int)
     ·rw [if_pos c4] at H; have c4b0 := dE_ c4; clear c4; obtain ⟨ji5, hji5⟩ : ∃ j_ : Int, (wrap64 (x10_1 + 1)) = j_ := ⟨_, rfl⟩
      replace H : (if 0 ≤ (ji5) then (if (ji5) ≤ (l0.length : Int) then ((some (l0.drop ((ji5) : Int).toNat : List (S24))).bind fun y171 => (dag_Edges.l1 k1 l0 x2_1 x10_1 l0 (l0.length : Int) x10_1 y171 (y171.length : Int) 0 ((J24 l0 x10_1).f0) ((J24 l0 x10_1).f1) ((J24 l0 x10_1).f2) ((J24 l0 x10_1).f3) ((J24 l0 x10_1).f4) ((J24 l0 x10_1).f5))) else (none)) else (none)) = some r := by first | (rw [hji5] at H; exact H) | (simp only [hji5] at H ⊢; exact H)
      have hji5w : (IntKind.i64.wrap (x10_1 + 1)) = ji5 := (i64_w _).trans hji5
      by_cases c6 : 0 ≤ (ji5)
      ·rw [if_pos c6] at H; have c6b0 := eq_true c6; have c6b1 := dE_ c6; clear c6
       by_cases c7 : (ji5) ≤ (l0.length : Int)
       ·rw [if_pos c7] at H; have c7b0 := eq_true c7; have c7b1 := dE_ c7; clear c7; obtain ⟨y171, hy171⟩ : ∃ y_ : List (S24), y_ = (l0.drop ((ji5) : Int).toNat) := ⟨_, rfl⟩
        replace H : (dag_Edges.l1 k1 l0 x2_1 x10_1 l0 (l0.length : Int) x10_1 y171 (y171.length : Int) 0 ((J24 l0 x10_1).f0) ((J24 l0 x10_1).f1) ((J24 l0 x10_1).f2) ((J24 l0 x10_1).f3) ((J24 l0 x10_1).f4) ((J24 l0 x10_1).f5)) = some r := by first | (rw [hy171]; with_reducible exact H) | (have H2_ := (Option.bind_some _ _).symm.trans H; rw [hy171]; with_reducible exact H2_) | (have H2_ := (Option.bind_some _ _).symm.trans H; with_reducible exact H2_) | with_reducible exact H | (rw [hy171]; exact H) | exact H
        have Ny171 := aM_ hy171; clear hy171; replace H := aM_ H; have p169 : 0 ≤ (x10_1 : Int) := oD_; have q169 : x10_1 < (l0.length : Int) := oD_; obtain ⟨ad169, e169, hx169_0, hx169_1, hx169_2, hx169_3, hx169_4, hx169_5⟩ := at_T24 HR0.out x10_1 p169 q169
        cases e169
        replace hx169_0 := hC_ HB hx169_0; replace hx169_1 := hC_ HB hx169_1; replace hx169_2 := hC_ HB hx169_2; replace hx169_3 := hC_ HB hx169_3; replace hx169_4 := hC_ HB hx169_4; replace hx169_5 := hC_ HB hx169_5; replace p169 := eq_true p169; replace q169 := eq_true q169
        go_wp2_with (first | ((with_reducible refine gate_dst (N := 4) rfl ?_); refine bX_ (N := 4) (cs := #[.int .i64 0, .int .i64 0, .int .i64 0, .int .i64 0, .int .i64 0, .string (⟨#[]⟩ : ByteArray)]) (t := 24) ?_; intro gb170 hg w8 hbox hb; replace HO_2 := aM_ (Kd.R_below (rR_ HO_2) hb); replace BK170 := aM_ (hbox); replace GW170 := aM_ (gE_ hg (bl_ HB)); replace GE170 := aM_ (gE_ hg (bl_ HB)); replace HB := aM_ (bT_ (bl_ HB) hb); clear hb hbox hg; obtain ⟨hcz9_0, hcz9_1, hcz9_2, hcz9_3, hcz9_4, hcz9_5⟩ := cl6_ BK170.out; obtain ⟨hfz9_0, hfz9_1, hfz9_2, hfz9_3, hfz9_4, hfz9_5⟩ := fz6_ BK170.out) | ((with_reducible refine gate_store (t := 24) (p := 4) rfl ?_); refine store_event (t := 24) (p := 4) (v := ?vo_w10) (w1 := ((((((w8.setCell ⟨gb170, 0, none⟩ (.int .i64 ((J24 l0 x10_1).f0))).setCell ⟨gb170, 1, none⟩ (.int .i64 ((J24 l0 x10_1).f1))).setCell ⟨gb170, 2, none⟩ (.int .i64 ((J24 l0 x10_1).f2))).setCell ⟨gb170, 3, none⟩ (.int .i64 ((J24 l0 x10_1).f3))).setCell ⟨gb170, 4, none⟩ (.int .i64 ((J24 l0 x10_1).f4))).setCell ⟨gb170, 5, none⟩ (.string ((J24 l0 x10_1).f5)))) ?hg ?ho ?hn ?hr ?_; (case ho => rfl); (case hg => rfl); (case hn => rfl); (case hr => first | (go_simp; done) | (go_simp; rfl)); intro w10 hw; replace HO_2 : As_ (Kd.R k51 51 w10 w.heap.size (fun _ => True) u2 x2_1) := ⟨(by rw [hw]; exact (by (with_reducible repeat (first | apply Kd.R_alloc | apply Kd.R_drewN | apply Kd.R_drew)); exact Kd.R_mono (Kd.R_far (p := ⟨gb170, 5, none⟩) (Kd.R_far (p := ⟨gb170, 4, none⟩) (Kd.R_far (p := ⟨gb170, 3, none⟩) (Kd.R_far (p := ⟨gb170, 2, none⟩) (Kd.R_far (p := ⟨gb170, 1, none⟩) (Kd.R_far (p := ⟨gb170, 0, none⟩) (Kd.R_types HO_2.out BK170.out (by decide)) (fun _ hk => hk.2) (.int .i64 ((J24 l0 x10_1).f0))) (fun _ hk => hk.2) (.int .i64 ((J24 l0 x10_1).f1))) (fun _ hk => hk.2) (.int .i64 ((J24 l0 x10_1).f2))) (fun _ hk => hk.2) (.int .i64 ((J24 l0 x10_1).f3))) (fun _ hk => hk.2) (.int .i64 ((J24 l0 x10_1).f4))) (fun _ hk => hk.2) (.string ((J24 l0 x10_1).f5))) (fun _ hk => trivial)))⟩; replace BK170 : As_ (w10.heap[gb170]? = some (.cells #[.int .i64 ((J24 l0 x10_1).f0), .int .i64 ((J24 l0 x10_1).f1), .int .i64 ((J24 l0 x10_1).f2), .int .i64 ((J24 l0 x10_1).f3), .int .i64 ((J24 l0 x10_1).f4), .string ((J24 l0 x10_1).f5)] 24 (0, 0))) := ⟨(by rw [hw]; exact (by (with_reducible repeat (first | refine kN_ ?_ _ | refine kD_ ?_ | refine kA_ ?_ _)); refine blk_put (cs := #[.int .i64 ((J24 l0 x10_1).f0), .int .i64 ((J24 l0 x10_1).f1), .int .i64 ((J24 l0 x10_1).f2), .int .i64 ((J24 l0 x10_1).f3), .int .i64 ((J24 l0 x10_1).f4), .string (⟨#[]⟩ : ByteArray)]) ?_ 5 _ rfl; (with_reducible repeat (first | refine kN_ ?_ _ | refine kD_ ?_ | refine kA_ ?_ _)); refine blk_put (cs := #[.int .i64 ((J24 l0 x10_1).f0), .int .i64 ((J24 l0 x10_1).f1), .int .i64 ((J24 l0 x10_1).f2), .int .i64 ((J24 l0 x10_1).f3), .int .i64 0, .string (⟨#[]⟩ : ByteArray)]) ?_ 4 _ rfl; (with_reducible repeat (first | refine kN_ ?_ _ | refine kD_ ?_ | refine kA_ ?_ _)); refine blk_put (cs := #[.int .i64 ((J24 l0 x10_1).f0), .int .i64 ((J24 l0 x10_1).f1), .int .i64 ((J24 l0 x10_1).f2), .int .i64 0, .int .i64 0, .string (⟨#[]⟩ : ByteArray)]) ?_ 3 _ rfl; (with_reducible repeat (first | refine kN_ ?_ _ | refine kD_ ?_ | refine kA_ ?_ _)); refine blk_put (cs := #[.int .i64 ((J24 l0 x10_1).f0), .int .i64 ((J24 l0 x10_1).f1), .int .i64 0, .int .i64 0, .int .i64 0, .string (⟨#[]⟩ : ByteArray)]) ?_ 2 _ rfl; (with_reducible repeat (first | refine kN_ ?_ _ | refine kD_ ?_ | refine kA_ ?_ _)); refine blk_put (cs := #[.int .i64 ((J24 l0 x10_1).f0), .int .i64 0, .int .i64 0, .int .i64 0, .int .i64 0, .string (⟨#[]⟩ : ByteArray)]) ?_ 1 _ rfl; (with_reducible repeat (first | refine kN_ ?_ _ | refine kD_ ?_ | refine kA_ ?_ _)); refine blk_put (cs := #[.int .i64 0, .int .i64 0, .int .i64 0, .int .i64 0, .int .i64 0, .string (⟨#[]⟩ : ByteArray)]) ?_ 0 _ rfl; (with_reducible repeat (first | refine kN_ ?_ _ | refine kD_ ?_ | refine kA_ ?_ _)); exact BK170.out))⟩; replace HB : As_ (Below w.heap.size w w10) := ⟨(by rw [hw]; exact (bs_ HB GE170))⟩; clear hw; have q11 : ((ji5) : Int) ≤ ((l0.length : Int) : Int) := oD_; obtain ⟨i011, hi011, _, hsz11, _⟩ := info_parts info24; have hroom11 : l0.length ≤ c0 := HC0.out; have hC11 : Kd.C k24 _ (some ad169) l0.length l0 := HR0.out; have q011 : (0 : Int) ≤ ((ji5) : Int) := oD_; have hcut11 := cut_from (P := Try.prog) 22 24 .i64 Try.underlying22 hi011 6 hsz11 (some ad169) l0.length c0 (ji5) q011 q11; have hr11 := Kd.C_drop (m := ((ji5) : Int).toNat) (c := c0) hC11 (by omega) hroom11; obtain ⟨A11, hA11⟩ : ∃ A1, A1 = (if c0 = ((ji5) : Int).toNat then (some ad169) else ((some ad169) : Option Addr).map (·.add (((ji5) : Int).toNat * 6))) := ⟨_, rfl⟩; obtain ⟨c11, hc11⟩ : ∃ c1, c1 = c0 - ((ji5) : Int).toNat := ⟨_, rfl⟩; have hy11 : y171.length = l0.length - ((ji5) : Int).toNat := (by rw [Ny171.out, List.length_drop] <;> omega); rw [show (l0).drop ((ji5) : Int).toNat = y171 from Ny171.out.symm] at hr11; replace hr11 : Kd.C k24 _ A11 y171.length y171 := (by rw [hA11]; exact hr11); rw [← hy11, ← hA11, ← hc11] at hcut11; have HR174 := aM_ hr11; have HC174 := aM_ (show y171.length ≤ c11 from by rw [hy11, hc11]; exact Nat.sub_le_sub_right hroom11 _); clear hr11 hC11 hroom11 hi011 hsz11 hc11; have KY11 := aM_ hy11; have KA11 := aM_ hA11; clear hy11 hA11; replace q11 := eq_true q11))
        go_loopg [2, 20] k1 (fun kq v2 v20 w' => ∃ (x2_2 : List (S51)) (x20_2 : Int), v20 = .int .i64 x20_2 ∧ As_ (dag_Edges.l1 kq l0 x2_2 x10_1 l0 (l0.length : Int) x10_1 y171 (y171.length : Int) x20_2 ((J24 l0 x10_1).f0) ((J24 l0 x10_1).f1) ((J24 l0 x10_1).f2) ((J24 l0 x10_1).f3) ((J24 l0 x10_1).f4) ((J24 l0 x10_1).f5) = some r) ∧ As_ (kq ≤ k1) ∧ As_ (Kd.R k51 51 w' w.heap.size (fun _ => True) v2 x2_2) ∧ As_ (w'.heap[gb170]? = some (.cells #[.int .i64 ((J24 l0 x10_1).f0), .int .i64 ((J24 l0 x10_1).f1), .int .i64 ((J24 l0 x10_1).f2), .int .i64 ((J24 l0 x10_1).f3), .int .i64 ((J24 l0 x10_1).f4), .string ((J24 l0 x10_1).f5)] 24 (0, 0))) ∧ As_ (Below w.heap.size w w'))
        case atStart => exact ⟨(x2_1), (0), eQ_, H, ⟨Nat.le_refl _⟩, ⟨rR_ HO_2⟩, ⟨rB_ BK170⟩, ⟨bs_ HB GE170⟩⟩
        case round =>
         clear H; obtain ⟨x2_2, x20_2, rfl, HA, HK2, HO_2, BK170, HB⟩ := hrel
         cases gk with
         | zero => exact absurd HA.out (by simp [dag_Edges.l1])
         | succ k2 =>
          have H := HA.out; clear HA; simp only [dag_Edges.l1] at H
          by_cases c12 : x20_2 < (y171.length : Int)
          ·rw [if_pos c12] at H; have c12b0 := dE_ c12; clear c12
           by_cases c13 : 0 ≤ x20_2
           ·rw [if_pos c13] at H; have c13b0 := dE_ c13; clear c13
            by_cases c14 : x20_2 < (y171.length : Int)
            ·rw [if_pos c14] at H; have c14b0 := dE_ c14; clear c14; obtain ⟨t177, A15, H⟩ := oB_ H
             by_cases c16 : t177 ≥ 0
             ·rw [if_pos c16] at H; have c16b0 := dE_ c16; clear c16
              by_cases c17 : x2_2.length < 5864062014805
              ·rw [if_pos c17] at H; have LMc17 := aM_ c17; clear c17; obtain ⟨y178, hy178⟩ : ∃ y_ : List (S51), y_ = (x2_2 ++ [(⟨x10_1, wrap64 ((wrap64 (x10_1 + 1)) + x20_2), t177⟩ : S51)]) := ⟨_, rfl⟩
               replace H : (dag_Edges.l1 k2 l0 y178 x10_1 l0 (l0.length : Int) x10_1 y171 (y171.length : Int) (wrap64 (x20_2 + 1)) ((J24 l0 x10_1).f0) ((J24 l0 x10_1).f1) ((J24 l0 x10_1).f2) ((J24 l0 x10_1).f3) ((J24 l0 x10_1).f4) ((J24 l0 x10_1).f5)) = some r := by first | (rw [hy178]; with_reducible exact H) | (have H2_ := (Option.bind_some _ _).symm.trans H; rw [hy178]; with_reducible exact H2_) | (have H2_ := (Option.bind_some _ _).symm.trans H; with_reducible exact H2_) | with_reducible exact H | (rw [hy178]; exact H) | exact H
               rw [hji5] at hy178; have Ny178 := aM_ hy178; clear hy178; replace H := aM_ H; have p175 : 0 ≤ (x20_2 : Int) := oD_; have q175 : x20_2 < (y171.length : Int) := oD_; obtain ⟨ad175, e175, hx175_0, hx175_1, hx175_2, hx175_3, hx175_4, hx175_5⟩ := at_T24 HR174.out x20_2 p175 q175
               cases e175
               replace hx175_0 := hC_ HB hx175_0; replace hx175_1 := hC_ HB hx175_1; replace hx175_2 := hC_ HB hx175_2; replace hx175_3 := hC_ HB hx175_3; replace hx175_4 := hC_ HB hx175_4; replace hx175_5 := hC_ HB hx175_5; replace p175 := eq_true p175; replace q175 := eq_true q175
               go_wp2_with (first | ((with_reducible refine gate_dst (N := 6) rfl ?_); refine bX_ (N := 6) (cs := #[.int .i64 0, .int .i64 0, .int .i64 0, .int .i64 0, .int .i64 0, .string (⟨#[]⟩ : ByteArray)]) (t := 24) ?_; intro gb176 hg w18 hbox hb; replace HO_2 := aM_ (Kd.R_below (rR_ HO_2) hb); replace BK176 := aM_ (hbox); replace GW176 := aM_ (gE_ hg (bs_ HB GE170)); replace GE176 := aM_ (gE_ hg (bs_ HB GE170)); replace HB := aM_ (bT_ (bs_ HB GE170) hb); replace NB170_176 := aM_ ((by rw [hg]; exact Nat.ne_of_lt (blk_lt (g := gb170) (o := .cells #[.int .i64 ((J24 l0 x10_1).f0), .int .i64 ((J24 l0 x10_1).f1), .int .i64 ((J24 l0 x10_1).f2), .int .i64 ((J24 l0 x10_1).f3), .int .i64 ((J24 l0 x10_1).f4), .string ((J24 l0 x10_1).f5)] 24 (0, 0)) (rB_ BK170)) : gb170 ≠ gb176)); replace NB176_170 := aM_ ((by rw [hg]; exact Nat.ne_of_gt (blk_lt (g := gb170) (o := .cells #[.int .i64 ((J24 l0 x10_1).f0), .int .i64 ((J24 l0 x10_1).f1), .int .i64 ((J24 l0 x10_1).f2), .int .i64 ((J24 l0 x10_1).f3), .int .i64 ((J24 l0 x10_1).f4), .string ((J24 l0 x10_1).f5)] 24 (0, 0)) (rB_ BK170)) : gb176 ≠ gb170)); replace BK170 := aM_ (kB_ (rB_ BK170) hb); clear hb hbox hg; have hnb19 := NB176_170.out; have hnc19 := NB170_176.out; obtain ⟨hcz20_0, hcz20_1, hcz20_2, hcz20_3, hcz20_4, hcz20_5⟩ := cl6_ BK176.out; obtain ⟨hfz20_0, hfz20_1, hfz20_2, hfz20_3, hfz20_4, hfz20_5⟩ := fz6_ BK176.out; obtain ⟨hcz21_0, hcz21_1, hcz21_2, hcz21_3, hcz21_4, hcz21_5⟩ := cl6_ BK170.out; obtain ⟨hfz21_0, hfz21_1, hfz21_2, hfz21_3, hfz21_4, hfz21_5⟩ := fz6_ BK170.out) | ((with_reducible refine gC_ (f := 91) rfl ?_); refine gL_ (some 27) Try.func91 #[.agg #[.int .i64 ((J24 l0 x10_1).f0), .int .i64 ((J24 l0 x10_1).f1), .int .i64 ((J24 l0 x10_1).f2), .int .i64 ((J24 l0 x10_1).f3), .int .i64 ((J24 l0 x10_1).f4), .string ((J24 l0 x10_1).f5)], .agg #[.int .i64 ((J24 y171 x20_2).f0), .int .i64 ((J24 y171 x20_2).f1), .int .i64 ((J24 y171 x20_2).f2), .int .i64 ((J24 y171 x20_2).f3), .int .i64 ((J24 y171 x20_2).f4), .string ((J24 y171 x20_2).f5)]] rfl ?_; (with_reducible refine (dag_dist.calls k2 ((J24 l0 x10_1).f0) ((J24 l0 x10_1).f1) ((J24 l0 x10_1).f2) ((J24 l0 x10_1).f3) ((J24 l0 x10_1).f4) ((J24 l0 x10_1).f5) ((J24 y171 x20_2).f0) ((J24 y171 x20_2).f1) ((J24 y171 x20_2).f2) ((J24 y171 x20_2).f3) ((J24 y171 x20_2).f4) ((J24 y171 x20_2).f5) t177 _ A15.out).mono ?_); rintro e w22 ⟨rfl, hb⟩; refine ⟨_, rfl, ?_⟩; replace HO_2 := aM_ (Kd.R_below (by (with_reducible repeat (first | apply Kd.R_alloc | apply Kd.R_drewN | apply Kd.R_drew)); exact (Kd.R_mono (Kd.R_far (p := ⟨gb176, 5, none⟩) (Kd.R_far (p := ⟨gb176, 4, none⟩) (Kd.R_far (p := ⟨gb176, 3, none⟩) (Kd.R_far (p := ⟨gb176, 2, none⟩) (Kd.R_far (p := ⟨gb176, 1, none⟩) (Kd.R_far (p := ⟨gb176, 0, none⟩) (Kd.R_types HO_2.out BK176.out (by decide)) (fun _ hk => hk.2) (.int .i64 ((J24 y171 x20_2).f0))) (fun _ hk => hk.2) (.int .i64 ((J24 y171 x20_2).f1))) (fun _ hk => hk.2) (.int .i64 ((J24 y171 x20_2).f2))) (fun _ hk => hk.2) (.int .i64 ((J24 y171 x20_2).f3))) (fun _ hk => hk.2) (.int .i64 ((J24 y171 x20_2).f4))) (fun _ hk => hk.2) (.string ((J24 y171 x20_2).f5))) (fun _ h_ => h_.1))) hb); replace BK170 := aM_ (kB_ (g := gb170) (o := .cells #[.int .i64 ((J24 l0 x10_1).f0), .int .i64 ((J24 l0 x10_1).f1), .int .i64 ((J24 l0 x10_1).f2), .int .i64 ((J24 l0 x10_1).f3), .int .i64 ((J24 l0 x10_1).f4), .string ((J24 l0 x10_1).f5)] 24 (0, 0)) (by (with_reducible repeat (first | refine kN_ ?_ _ | refine kD_ ?_ | refine kA_ ?_ _)); refine blk_far ?_ NB170_176.out _; (with_reducible repeat (first | refine kN_ ?_ _ | refine kD_ ?_ | refine kA_ ?_ _)); refine blk_far ?_ NB170_176.out _; (with_reducible repeat (first | refine kN_ ?_ _ | refine kD_ ?_ | refine kA_ ?_ _)); refine blk_far ?_ NB170_176.out _; (with_reducible repeat (first | refine kN_ ?_ _ | refine kD_ ?_ | refine kA_ ?_ _)); refine blk_far ?_ NB170_176.out _; (with_reducible repeat (first | refine kN_ ?_ _ | refine kD_ ?_ | refine kA_ ?_ _)); refine blk_far ?_ NB170_176.out _; (with_reducible repeat (first | refine kN_ ?_ _ | refine kD_ ?_ | refine kA_ ?_ _)); refine blk_far ?_ NB170_176.out _; (with_reducible repeat (first | refine kN_ ?_ _ | refine kD_ ?_ | refine kA_ ?_ _)); exact BK170.out) hb); replace BK176 := aM_ (kB_ (g := gb176) (o := .cells #[.int .i64 ((J24 y171 x20_2).f0), .int .i64 ((J24 y171 x20_2).f1), .int .i64 ((J24 y171 x20_2).f2), .int .i64 ((J24 y171 x20_2).f3), .int .i64 ((J24 y171 x20_2).f4), .string ((J24 y171 x20_2).f5)] 24 (0, 0)) (by (with_reducible repeat (first | refine kN_ ?_ _ | refine kD_ ?_ | refine kA_ ?_ _)); refine blk_put (cs := #[.int .i64 ((J24 y171 x20_2).f0), .int .i64 ((J24 y171 x20_2).f1), .int .i64 ((J24 y171 x20_2).f2), .int .i64 ((J24 y171 x20_2).f3), .int .i64 ((J24 y171 x20_2).f4), .string (⟨#[]⟩ : ByteArray)]) ?_ 5 _ rfl; (with_reducible repeat (first | refine kN_ ?_ _ | refine kD_ ?_ | refine kA_ ?_ _)); refine blk_put (cs := #[.int .i64 ((J24 y171 x20_2).f0), .int .i64 ((J24 y171 x20_2).f1), .int .i64 ((J24 y171 x20_2).f2), .int .i64 ((J24 y171 x20_2).f3), .int .i64 0, .string (⟨#[]⟩ : ByteArray)]) ?_ 4 _ rfl; (with_reducible repeat (first | refine kN_ ?_ _ | refine kD_ ?_ | refine kA_ ?_ _)); refine blk_put (cs := #[.int .i64 ((J24 y171 x20_2).f0), .int .i64 ((J24 y171 x20_2).f1), .int .i64 ((J24 y171 x20_2).f2), .int .i64 0, .int .i64 0, .string (⟨#[]⟩ : ByteArray)]) ?_ 3 _ rfl; (with_reducible repeat (first | refine kN_ ?_ _ | refine kD_ ?_ | refine kA_ ?_ _)); refine blk_put (cs := #[.int .i64 ((J24 y171 x20_2).f0), .int .i64 ((J24 y171 x20_2).f1), .int .i64 0, .int .i64 0, .int .i64 0, .string (⟨#[]⟩ : ByteArray)]) ?_ 2 _ rfl; (with_reducible repeat (first | refine kN_ ?_ _ | refine kD_ ?_ | refine kA_ ?_ _)); refine blk_put (cs := #[.int .i64 ((J24 y171 x20_2).f0), .int .i64 0, .int .i64 0, .int .i64 0, .int .i64 0, .string (⟨#[]⟩ : ByteArray)]) ?_ 1 _ rfl; (with_reducible repeat (first | refine kN_ ?_ _ | refine kD_ ?_ | refine kA_ ?_ _)); refine blk_put (cs := #[.int .i64 0, .int .i64 0, .int .i64 0, .int .i64 0, .int .i64 0, .string (⟨#[]⟩ : ByteArray)]) ?_ 0 _ rfl; (with_reducible repeat (first | refine kN_ ?_ _ | refine kD_ ?_ | refine kA_ ?_ _)); exact BK176.out) hb); replace HB := aM_ (bT_ (bt_ HB GE170 GE176) hb)) | ((with_reducible refine gate_builtin (b := .append) (xs := #[.tmp 30, .tmp 38]) rfl ?_); at_builtin; refine Kd.R_append k51 (w0 := w) w.heap.size rfl (.tmp 30) (.tmp 38) 31 51 (.agg #[(.int .i64 0), (.int .i64 0), (.int .i64 0)]) 24 rfl Try.underlying31 info51 rfl (by decide) (by omega) u2 x2_2 (⟨x10_1, wrap64 (ji5 + x20_2), t177⟩ : S51) [.int .i64 x10_1, .int .i64 (wrap64 (ji5 + x20_2)), .int .i64 t177] (fun _ => True) (fun _ => False) rfl rfl ?aP (fun _ hk => hk.elim) ?aF ?aO ?aB ?aS ?aL ?_; (case aP => exact k51_mkM _ _ _ (⟨x10_1, wrap64 (ji5 + x20_2), t177⟩ : S51)); (case aB => exact (bt_ HB GE170 GE176)); (case aF => exact (fun _ _ => trivial)); (case aO => exact (rR_ HO_2)); (case aS => exact (bY_ (bt_ HB GE170 GE176))); (case aL => have := LMc17.out; omega); intro v179 w23 ho hb hg hat; rw [← Ny178.out] at ho; replace BK170 := aM_ (blk_grown (g := gb170) (o := .cells #[.int .i64 ((J24 l0 x10_1).f0), .int .i64 ((J24 l0 x10_1).f1), .int .i64 ((J24 l0 x10_1).f2), .int .i64 ((J24 l0 x10_1).f3), .int .i64 ((J24 l0 x10_1).f4), .string ((J24 l0 x10_1).f5)] 24 (0, 0)) (rB_ BK170) hg (Kd.R_ne HO_2.out BK170.out (by decide))); replace BK176 := aM_ (blk_grown (g := gb176) (o := .cells #[.int .i64 ((J24 y171 x20_2).f0), .int .i64 ((J24 y171 x20_2).f1), .int .i64 ((J24 y171 x20_2).f2), .int .i64 ((J24 y171 x20_2).f3), .int .i64 ((J24 y171 x20_2).f4), .string ((J24 y171 x20_2).f5)] 24 (0, 0)) (rB_ BK176) hg (Kd.R_ne HO_2.out BK176.out (by decide))); replace HB := aM_ (hb); replace HO180 := aM_ (ho); clear HO_2; clear ho hb hg hat))
               go_roundg k2
               case measure => have := HK1.out; have := HK2.out; omega
               case rel => exact ⟨(y178), (wrap64 (x20_2 + 1)), eQ_, H, ⟨by have := HK1.out; have := HK2.out; omega⟩, ⟨rR_ HO180⟩, ⟨rB_ BK170⟩, ⟨bt_ HB GE170 GE176⟩⟩
              rw [if_neg c17] at H; exact absurd H (by simp)
             rw [if_neg c16] at H; have c16b0 := dF_ c16; clear c16; replace H := aM_ H; have p175 : 0 ≤ (x20_2 : Int) := oD_; have q175 : x20_2 < (y171.length : Int) := oD_; obtain ⟨ad175, e175, hx175_0, hx175_1, hx175_2, hx175_3, hx175_4, hx175_5⟩ := at_T24 HR174.out x20_2 p175 q175
             cases e175
             replace hx175_0 := hC_ HB hx175_0; replace hx175_1 := hC_ HB hx175_1; replace hx175_2 := hC_ HB hx175_2; replace hx175_3 := hC_ HB hx175_3; replace hx175_4 := hC_ HB hx175_4; replace hx175_5 := hC_ HB hx175_5; replace p175 := eq_true p175; replace q175 := eq_true q175
             go_wp2_with (first | ((with_reducible refine gate_dst (N := 6) rfl ?_); refine bX_ (N := 6) (cs := #[.int .i64 0, .int .i64 0, .int .i64 0, .int .i64 0, .int .i64 0, .string (⟨#[]⟩ : ByteArray)]) (t := 24) ?_; intro gb176 hg w24 hbox hb; replace HO_2 := aM_ (Kd.R_below (rR_ HO_2) hb); replace BK176 := aM_ (hbox); replace GW176 := aM_ (gE_ hg (bs_ HB GE170)); replace GE176 := aM_ (gE_ hg (bs_ HB GE170)); replace HB := aM_ (bT_ (bs_ HB GE170) hb); replace NB170_176 := aM_ ((by rw [hg]; exact Nat.ne_of_lt (blk_lt (g := gb170) (o := .cells #[.int .i64 ((J24 l0 x10_1).f0), .int .i64 ((J24 l0 x10_1).f1), .int .i64 ((J24 l0 x10_1).f2), .int .i64 ((J24 l0 x10_1).f3), .int .i64 ((J24 l0 x10_1).f4), .string ((J24 l0 x10_1).f5)] 24 (0, 0)) (rB_ BK170)) : gb170 ≠ gb176)); replace NB176_170 := aM_ ((by rw [hg]; exact Nat.ne_of_gt (blk_lt (g := gb170) (o := .cells #[.int .i64 ((J24 l0 x10_1).f0), .int .i64 ((J24 l0 x10_1).f1), .int .i64 ((J24 l0 x10_1).f2), .int .i64 ((J24 l0 x10_1).f3), .int .i64 ((J24 l0 x10_1).f4), .string ((J24 l0 x10_1).f5)] 24 (0, 0)) (rB_ BK170)) : gb176 ≠ gb170)); replace BK170 := aM_ (kB_ (rB_ BK170) hb); clear hb hbox hg; have hnb25 := NB176_170.out; have hnc25 := NB170_176.out; obtain ⟨hcz26_0, hcz26_1, hcz26_2, hcz26_3, hcz26_4, hcz26_5⟩ := cl6_ BK176.out; obtain ⟨hfz26_0, hfz26_1, hfz26_2, hfz26_3, hfz26_4, hfz26_5⟩ := fz6_ BK176.out; obtain ⟨hcz27_0, hcz27_1, hcz27_2, hcz27_3, hcz27_4, hcz27_5⟩ := cl6_ BK170.out; obtain ⟨hfz27_0, hfz27_1, hfz27_2, hfz27_3, hfz27_4, hfz27_5⟩ := fz6_ BK170.out) | ((with_reducible refine gC_ (f := 91) rfl ?_); refine gL_ (some 27) Try.func91 #[.agg #[.int .i64 ((J24 l0 x10_1).f0), .int .i64 ((J24 l0 x10_1).f1), .int .i64 ((J24 l0 x10_1).f2), .int .i64 ((J24 l0 x10_1).f3), .int .i64 ((J24 l0 x10_1).f4), .string ((J24 l0 x10_1).f5)], .agg #[.int .i64 ((J24 y171 x20_2).f0), .int .i64 ((J24 y171 x20_2).f1), .int .i64 ((J24 y171 x20_2).f2), .int .i64 ((J24 y171 x20_2).f3), .int .i64 ((J24 y171 x20_2).f4), .string ((J24 y171 x20_2).f5)]] rfl ?_; (with_reducible refine (dag_dist.calls k2 ((J24 l0 x10_1).f0) ((J24 l0 x10_1).f1) ((J24 l0 x10_1).f2) ((J24 l0 x10_1).f3) ((J24 l0 x10_1).f4) ((J24 l0 x10_1).f5) ((J24 y171 x20_2).f0) ((J24 y171 x20_2).f1) ((J24 y171 x20_2).f2) ((J24 y171 x20_2).f3) ((J24 y171 x20_2).f4) ((J24 y171 x20_2).f5) t177 _ A15.out).mono ?_); rintro e w28 ⟨rfl, hb⟩; refine ⟨_, rfl, ?_⟩; replace HO_2 := aM_ (Kd.R_below (by (with_reducible repeat (first | apply Kd.R_alloc | apply Kd.R_drewN | apply Kd.R_drew)); exact (Kd.R_mono (Kd.R_far (p := ⟨gb176, 5, none⟩) (Kd.R_far (p := ⟨gb176, 4, none⟩) (Kd.R_far (p := ⟨gb176, 3, none⟩) (Kd.R_far (p := ⟨gb176, 2, none⟩) (Kd.R_far (p := ⟨gb176, 1, none⟩) (Kd.R_far (p := ⟨gb176, 0, none⟩) (Kd.R_types HO_2.out BK176.out (by decide)) (fun _ hk => hk.2) (.int .i64 ((J24 y171 x20_2).f0))) (fun _ hk => hk.2) (.int .i64 ((J24 y171 x20_2).f1))) (fun _ hk => hk.2) (.int .i64 ((J24 y171 x20_2).f2))) (fun _ hk => hk.2) (.int .i64 ((J24 y171 x20_2).f3))) (fun _ hk => hk.2) (.int .i64 ((J24 y171 x20_2).f4))) (fun _ hk => hk.2) (.string ((J24 y171 x20_2).f5))) (fun _ h_ => h_.1))) hb); replace BK170 := aM_ (kB_ (g := gb170) (o := .cells #[.int .i64 ((J24 l0 x10_1).f0), .int .i64 ((J24 l0 x10_1).f1), .int .i64 ((J24 l0 x10_1).f2), .int .i64 ((J24 l0 x10_1).f3), .int .i64 ((J24 l0 x10_1).f4), .string ((J24 l0 x10_1).f5)] 24 (0, 0)) (by (with_reducible repeat (first | refine kN_ ?_ _ | refine kD_ ?_ | refine kA_ ?_ _)); refine blk_far ?_ NB170_176.out _; (with_reducible repeat (first | refine kN_ ?_ _ | refine kD_ ?_ | refine kA_ ?_ _)); refine blk_far ?_ NB170_176.out _; (with_reducible repeat (first | refine kN_ ?_ _ | refine kD_ ?_ | refine kA_ ?_ _)); refine blk_far ?_ NB170_176.out _; (with_reducible repeat (first | refine kN_ ?_ _ | refine kD_ ?_ | refine kA_ ?_ _)); refine blk_far ?_ NB170_176.out _; (with_reducible repeat (first | refine kN_ ?_ _ | refine kD_ ?_ | refine kA_ ?_ _)); refine blk_far ?_ NB170_176.out _; (with_reducible repeat (first | refine kN_ ?_ _ | refine kD_ ?_ | refine kA_ ?_ _)); refine blk_far ?_ NB170_176.out _; (with_reducible repeat (first | refine kN_ ?_ _ | refine kD_ ?_ | refine kA_ ?_ _)); exact BK170.out) hb); replace BK176 := aM_ (kB_ (g := gb176) (o := .cells #[.int .i64 ((J24 y171 x20_2).f0), .int .i64 ((J24 y171 x20_2).f1), .int .i64 ((J24 y171 x20_2).f2), .int .i64 ((J24 y171 x20_2).f3), .int .i64 ((J24 y171 x20_2).f4), .string ((J24 y171 x20_2).f5)] 24 (0, 0)) (by (with_reducible repeat (first | refine kN_ ?_ _ | refine kD_ ?_ | refine kA_ ?_ _)); refine blk_put (cs := #[.int .i64 ((J24 y171 x20_2).f0), .int .i64 ((J24 y171 x20_2).f1), .int .i64 ((J24 y171 x20_2).f2), .int .i64 ((J24 y171 x20_2).f3), .int .i64 ((J24 y171 x20_2).f4), .string (⟨#[]⟩ : ByteArray)]) ?_ 5 _ rfl; (with_reducible repeat (first | refine kN_ ?_ _ | refine kD_ ?_ | refine kA_ ?_ _)); refine blk_put (cs := #[.int .i64 ((J24 y171 x20_2).f0), .int .i64 ((J24 y171 x20_2).f1), .int .i64 ((J24 y171 x20_2).f2), .int .i64 ((J24 y171 x20_2).f3), .int .i64 0, .string (⟨#[]⟩ : ByteArray)]) ?_ 4 _ rfl; (with_reducible repeat (first | refine kN_ ?_ _ | refine kD_ ?_ | refine kA_ ?_ _)); refine blk_put (cs := #[.int .i64 ((J24 y171 x20_2).f0), .int .i64 ((J24 y171 x20_2).f1), .int .i64 ((J24 y171 x20_2).f2), .int .i64 0, .int .i64 0, .string (⟨#[]⟩ : ByteArray)]) ?_ 3 _ rfl; (with_reducible repeat (first | refine kN_ ?_ _ | refine kD_ ?_ | refine kA_ ?_ _)); refine blk_put (cs := #[.int .i64 ((J24 y171 x20_2).f0), .int .i64 ((J24 y171 x20_2).f1), .int .i64 0, .int .i64 0, .int .i64 0, .string (⟨#[]⟩ : ByteArray)]) ?_ 2 _ rfl; (with_reducible repeat (first | refine kN_ ?_ _ | refine kD_ ?_ | refine kA_ ?_ _)); refine blk_put (cs := #[.int .i64 ((J24 y171 x20_2).f0), .int .i64 0, .int .i64 0, .int .i64 0, .int .i64 0, .string (⟨#[]⟩ : ByteArray)]) ?_ 1 _ rfl; (with_reducible repeat (first | refine kN_ ?_ _ | refine kD_ ?_ | refine kA_ ?_ _)); refine blk_put (cs := #[.int .i64 0, .int .i64 0, .int .i64 0, .int .i64 0, .int .i64 0, .string (⟨#[]⟩ : ByteArray)]) ?_ 0 _ rfl; (with_reducible repeat (first | refine kN_ ?_ _ | refine kD_ ?_ | refine kA_ ?_ _)); exact BK176.out) hb); replace HB := aM_ (bT_ (bt_ HB GE170 GE176) hb)))
             go_roundg k2
             case measure => have := HK1.out; have := HK2.out; omega
             case rel => exact ⟨(x2_2), (wrap64 (x20_2 + 1)), eQ_, H, ⟨by have := HK1.out; have := HK2.out; omega⟩, ⟨rR_ HO_2⟩, ⟨rB_ BK170⟩, ⟨bt_ HB GE170 GE176⟩⟩
            rw [if_neg c14] at H; exact absurd H (by simp)
           rw [if_neg c13] at H; exact absurd H (by simp)
          rw [if_neg c12] at H; have c12b0 := dF_ c12; clear c12; replace H := aM_ H; go_wp2
          go_roundg k2
          case measure => have := HK1.out; have := HK2.out; omega
          case rel => exact ⟨(x2_2), (wrap64 (x10_1 + 1)), eQ_, H, ⟨by have := HK1.out; have := HK2.out; omega⟩, ⟨rR_ HO_2⟩, ⟨bs_ HB GE170⟩⟩
       rw [if_neg c7] at H; exact absurd H (by simp)
      rw [if_neg c6] at H; exact absurd H (by simp)
     rw [if_neg c4] at H; exact absurd H (by simp)
    rw [if_neg c3] at H; exact absurd H (by simp)
   rw [if_neg c2] at H; have c2b0 := dF_ c2; clear c2; obtain rfl := oI_ H; go_wp2; go_ret; exact ⟨_, eR_, rR_ HO_2, bl_ HB⟩
mutual
def r3_Latency.j0 : Nat → Int → Bool → Option (Int)
  | 0, _, _ => none
  | k + 1, x3, x4 => if x4 = true then (some 2) else (if x3 = 20 then (r3_Latency.j1 k x3 (x3 == 20)) else (r3_Latency.j1 k x3 (x3 == 24)))
def r3_Latency.j1 : Nat → Int → Bool → Option (Int)
  | 0, _, _ => none
  | k + 1, x3, x8 => if x8 = true then (some 3) else (if x3 = 16 then (r3_Latency.j2 k (x3 == 16)) else (r3_Latency.j2 k (x3 == 17)))
def r3_Latency.j2 : Nat → Bool → Option (Int)
  | 0, _ => none
  | k + 1, x11 => if x11 = true then (some 4) else (some 1)
end
def r3_Latency.f (k : Nat) (a0 : Int) : Option (Int) := if a0 = 14 then (r3_Latency.j0 k a0 (a0 == 14)) else (if a0 = 15 then (r3_Latency.j0 k a0 (a0 == 15)) else (r3_Latency.j0 k a0 (a0 == 26)))
theorem r3_Latency.mono_l : ∀ k, (∀ y0 y1, LeO (r3_Latency.j0 k y0 y1) (r3_Latency.j0 (k + 1) y0 y1)) ∧ (∀ y0 y1, LeO (r3_Latency.j1 k y0 y1) (r3_Latency.j1 (k + 1) y0 y1)) ∧ (∀ y0, LeO (r3_Latency.j2 k y0) (r3_Latency.j2 (k + 1) y0))
  | 0 => ⟨fun _ _ r h => by simp [r3_Latency.j0] at h, fun _ _ r h => by simp [r3_Latency.j1] at h, fun _ r h => by simp [r3_Latency.j2] at h⟩
  | k + 1 => by
    obtain ⟨ih0, ih1, ih2⟩ := r3_Latency.mono_l k; refine ⟨?_, ?_, ?_⟩
    · intro y0 y1; unfold r3_Latency.j0
      repeat' first
      | (with_reducible exact ih0 _ _)
      | (with_reducible exact ih1 _ _)
      | (with_reducible exact ih2 _)
      | (with_reducible exact LeO.refl _)
      | (with_reducible exact LeO.none _)
      | (with_reducible refine LeO.ite ?_ ?_)
      | (with_reducible refine LeO.bind ?_ (fun _ => ?_))
      | exact LeO.none _
      | refine LeO.ite ?_ ?_
      | refine LeO.bind ?_ (fun _ => ?_)
    · intro y0 y1; unfold r3_Latency.j1
      repeat' first
      | (with_reducible exact ih0 _ _)
      | (with_reducible exact ih1 _ _)
      | (with_reducible exact ih2 _)
      | (with_reducible exact LeO.refl _)
      | (with_reducible exact LeO.none _)
      | (with_reducible refine LeO.ite ?_ ?_)
      | (with_reducible refine LeO.bind ?_ (fun _ => ?_))
      | exact LeO.none _
      | refine LeO.ite ?_ ?_
      | refine LeO.bind ?_ (fun _ => ?_)
    · intro y0; unfold r3_Latency.j2
      repeat' first
      | (with_reducible exact ih0 _ _)
      | (with_reducible exact ih1 _ _)
      | (with_reducible exact ih2 _)
      | (with_reducible exact LeO.refl _)
      | (with_reducible exact LeO.none _)
      | (with_reducible refine LeO.ite ?_ ?_)
      | (with_reducible refine LeO.bind ?_ (fun _ => ?_))
      | exact LeO.none _
      | refine LeO.ite ?_ ?_
      | refine LeO.bind ?_ (fun _ => ?_)
theorem r3_Latency.mono : ∀ a0 k, LeO (r3_Latency.f k a0) (r3_Latency.f (k + 1) a0) := by
 intro a0 k; obtain ⟨ih0, ih1, ih2⟩ := r3_Latency.mono_l k; unfold r3_Latency.f
 repeat' first
  | (with_reducible exact ih0 _ _)
  | (with_reducible exact ih1 _ _)
  | (with_reducible exact ih2 _)
  | (with_reducible exact LeO.refl _)
  | (with_reducible exact LeO.none _)
  | (with_reducible refine LeO.ite ?_ ?_)
  | (with_reducible refine LeO.bind ?_ (fun _ => ?_))
  | exact LeO.none _
  | refine LeO.ite ?_ ?_
  | refine LeO.bind ?_ (fun _ => ?_)
theorem r3_Latency.calls (k : Nat) (a0 : Int) (r : Int) (w : World) (h : r3_Latency.f k a0 = some r) :
    Calls Try.prog 27 #[.int .i64 a0] w fun e w' => e = .returned (.int .i64 r) ∧ Dr_ w w' := by
 have H : (if a0 = 14 then (r3_Latency.j0 k a0 (a0 == 14)) else (if a0 = 15 then (r3_Latency.j0 k a0 (a0 == 15)) else (r3_Latency.j0 k a0 (a0 == 26)))) = some r := h; clear h; have HC2 := aM_ H; clear H; go_enter Try.func27, Try.ntmps27
 go_upto_if 4 with (fail)
 go_cut [4] (fun v4 wc => ∃ (kq : Nat) (x4_1 : Bool), v4 = .bool x4_1 ∧ As_ (r3_Latency.j0 kq a0 x4_1 = some r) ∧ As_ (kq ≤ k) ∧ Dr_ w wc)
 case first =>
  have H := HC2.out; clear HC2
  by_cases c3 : a0 = 14
  ·rw [if_pos c3] at H; have c3b0 := bH_ c3; have c3b1 := bF_ c3; clear c3
   (first | rw [c3b0] | (simp only [i64_w, i32_w]; rw [c3b0]) | skip)
   replace H := aM_ H; go_wp2
   go_meet
   case rel => exact ⟨_, ((a0 == 14)), eQ_, H, ⟨by first | omega | exact Nat.le_refl _⟩, dR_⟩
  rw [if_neg c3] at H; have c3b0 := bE_ c3; have c3b1 := bG_ c3
  (first | rw [c3b0] | (simp only [i64_w, i32_w]; rw [c3b0]) | skip)
  by_cases c4 : a0 = 15
  ·rw [if_pos c4] at H; have c4b0 := bH_ c4; have c4b1 := bF_ c4; clear c4; replace H := aM_ H; go_wp2
   go_meet
   case rel => exact ⟨_, ((a0 == 15)), eQ_, H, ⟨by first | omega | exact Nat.le_refl _⟩, dR_⟩
  rw [if_neg c4] at H; have c4b0 := bE_ c4; have c4b1 := bG_ c4; replace H := aM_ H; go_wp2
  go_meet
  case rel => exact ⟨_, ((a0 == 26)), eQ_, H, ⟨by first | omega | exact Nat.le_refl _⟩, dR_⟩
 case rest =>
  clear HC2; obtain ⟨kq, x4_1, rfl, HA, HJ1, ⟨mc1, rfl⟩⟩ := hcut
  cases kq with
  | zero => exact absurd HA.out (by simp [r3_Latency.j0])
  | succ kj1 =>
   have H := HA.out; clear HA; simp only [r3_Latency.j0] at H
   by_cases c5 : x4_1 = true
   ·subst c5; rw [if_pos rfl] at H; obtain rfl := oI_ H; go_wp2; go_ret; exact ⟨eQ_, dR_⟩
   replace c5 := eF_ c5; subst c5; rw [if_neg Bool.false_ne_true] at H; have HC6 := aM_ H; clear H
   go_upto_if 8 with (fail)
   go_cut [8] (fun v8 wc => ∃ (kq : Nat) (x8_5 : Bool), v8 = .bool x8_5 ∧ As_ (r3_Latency.j1 kq a0 x8_5 = some r) ∧ As_ (kq ≤ kj1) ∧ Dr_ w wc)
   case first =>
    have H := HC6.out; clear HC6
    by_cases c7 : a0 = 20
    ·rw [if_pos c7] at H; have c7b0 := bH_ c7; have c7b1 := bF_ c7; clear c7
     (first | rw [c7b0] | (simp only [i64_w, i32_w]; rw [c7b0]) | skip)
     replace H := aM_ H; go_wp2
     go_meet
     case rel => exact ⟨_, ((a0 == 20)), eQ_, H, ⟨by have := HJ1.out; first | omega | exact Nat.le_refl _⟩, dR_⟩
    rw [if_neg c7] at H; have c7b0 := bE_ c7; have c7b1 := bG_ c7
    (first | rw [c7b0] | (simp only [i64_w, i32_w]; rw [c7b0]) | skip)
    replace H := aM_ H; go_wp2
    go_meet
    case rel => exact ⟨_, ((a0 == 24)), eQ_, H, ⟨by have := HJ1.out; first | omega | exact Nat.le_refl _⟩, dR_⟩
   case rest =>
    clear HC6; obtain ⟨kq, x8_5, rfl, HA, HJ5, ⟨mc5, rfl⟩⟩ := hcut
    cases kq with
    | zero => exact absurd HA.out (by simp [r3_Latency.j1])
    | succ kj5 =>
     have H := HA.out; clear HA; simp only [r3_Latency.j1] at H
     by_cases c8 : x8_5 = true
     ·subst c8; rw [if_pos rfl] at H; obtain rfl := oI_ H; go_wp2; go_ret; exact ⟨eQ_, dR_⟩
     replace c8 := eF_ c8; subst c8; rw [if_neg Bool.false_ne_true] at H; have HC9 := aM_ H; clear H
     go_upto_if 11 with (fail)
     go_cut [11] (fun v11 wc => ∃ (kq : Nat) (x11_8 : Bool), v11 = .bool x11_8 ∧ As_ (r3_Latency.j2 kq x11_8 = some r) ∧ As_ (kq ≤ kj5) ∧ Dr_ w wc)
     case first =>
      have H := HC9.out; clear HC9
      by_cases c10 : a0 = 16
      ·rw [if_pos c10] at H; have c10b0 := bH_ c10; have c10b1 := bF_ c10; clear c10
       (first | rw [c10b0] | (simp only [i64_w, i32_w]; rw [c10b0]) | skip)
       replace H := aM_ H; go_wp2
       go_meet
       case rel => exact ⟨_, ((a0 == 16)), eQ_, H, ⟨by have := HJ1.out; have := HJ5.out; first | omega | exact Nat.le_refl _⟩, dR_⟩
      rw [if_neg c10] at H; have c10b0 := bE_ c10; have c10b1 := bG_ c10
      (first | rw [c10b0] | (simp only [i64_w, i32_w]; rw [c10b0]) | skip)
      replace H := aM_ H; go_wp2
      go_meet
      case rel => exact ⟨_, ((a0 == 17)), eQ_, H, ⟨by have := HJ1.out; have := HJ5.out; first | omega | exact Nat.le_refl _⟩, dR_⟩
     case rest =>
      clear HC9; obtain ⟨kq, x11_8, rfl, HA, HJ8, ⟨mc8, rfl⟩⟩ := hcut
      cases kq with
      | zero => exact absurd HA.out (by simp [r3_Latency.j2])
      | succ kj8 =>
       have H := HA.out; clear HA; simp only [r3_Latency.j2] at H
       by_cases c11 : x11_8 = true
       ·subst c11; rw [if_pos rfl] at H; obtain rfl := oI_ H; go_wp2; go_ret; exact ⟨eQ_, dR_⟩
       replace c11 := eF_ c11; subst c11; rw [if_neg Bool.false_ne_true] at H; obtain rfl := oI_ H; go_wp2; go_ret; exact ⟨eQ_, dR_⟩
end
section
attribute [local go_sem] max2_int min2_int max_two min_two max_three min_three max_four min_four
def r0_Num.f (a0 : Int) (a1 : Int) : Option (Bool) := if a0 ≥ 0 then (some (decide (a0 ≤ a1))) else (some false)
theorem r0_Num.calls (a0 : Int) (a1 : Int) (r : Bool) (w : World) (h : r0_Num.f a0 a1 = some r) :
    Calls Try.prog 35 #[.int .i64 a0, .int .i64 a1] w fun e w' => e = .returned (.bool r) ∧ Dr_ w w' := by
 have H : (if a0 ≥ 0 then (some (decide (a0 ≤ a1))) else (some false)) = some r := h; clear h
 by_cases c3 : a0 ≥ 0
 ·rw [if_pos c3] at H; have c3b0 := dE_ c3; clear c3; obtain rfl := oI_ H; go_enter Try.func35, Try.ntmps35; go_wp2; go_ret; exact ⟨eQ_, dR_⟩
 rw [if_neg c3] at H; have c3b0 := dF_ c3; clear c3; obtain rfl := oI_ H; go_enter Try.func35, Try.ntmps35; go_wp2; go_ret; exact ⟨eQ_, dR_⟩
def r3_Target.f (a0 : Int) : Option (Bool) := if a0 = 8 then (some true) else (some (a0 == 9))
theorem r3_Target.calls (a0 : Int) (r : Bool) (w : World) (h : r3_Target.f a0 = some r) :
    Calls Try.prog 43 #[.int .i64 a0] w fun e w' => e = .returned (.bool r) ∧ Dr_ w w' := by
 have H : (if a0 = 8 then (some true) else (some (a0 == 9))) = some r := h; clear h
 by_cases c2 : a0 = 8
 ·rw [if_pos c2] at H; have c2b0 := bH_ c2; have c2b1 := bF_ c2; clear c2; obtain rfl := oI_ H; go_enter Try.func43, Try.ntmps43; go_wp2; go_ret; exact ⟨eQ_, dR_⟩
 rw [if_neg c2] at H; have c2b0 := bE_ c2; have c2b1 := bG_ c2; obtain rfl := oI_ H; go_enter Try.func43, Try.ntmps43; go_wp2; go_ret; exact ⟨eQ_, dR_⟩
def r3_Valid.f (a0 : Int) : Option (Bool) := (r0_Between.f a0 0 33).bind fun t272 => (some t272)
theorem r3_Valid.calls (a0 : Int) (r : Bool) (w : World) (h : r3_Valid.f a0 = some r) :
    Calls Try.prog 66 #[.int .i64 a0] w fun e w' => e = .returned (.bool r) ∧ Dr_ w w' := by
 have H : ((r0_Between.f a0 0 33).bind fun t272 => (some t272)) = some r := h; clear h; obtain ⟨t272, A2, H⟩ := oB_ H; obtain rfl := oI_ H; go_enter Try.func66, Try.ntmps66
 go_wp2_with (first | ((with_reducible refine gC_ (f := 54) rfl ?_); refine gL_ (some 4) Try.func54 #[.int .i64 a0, .int .i64 0, .int .i64 33] rfl ?_; (with_reducible refine (r0_Between.calls a0 0 33 t272 _ A2.out).mono ?_); rintro e w' ⟨rfl, ⟨nd, rfl⟩⟩; refine ⟨_, rfl, ?_⟩))
 go_ret; exact ⟨eQ_, dR_⟩
def r3_reg.f (a0 : Int) (a1 : Bool) : Option (Bool) := if a1 = true then ((r0_Num.f a0 15).bind fun t273 => (some t273)) else (some (a0 == 0))
theorem r3_reg.calls (a0 : Int) (a1 : Bool) (r : Bool) (w : World) (h : r3_reg.f a0 a1 = some r) :
    Calls Try.prog 67 #[.int .i64 a0, .bool a1] w fun e w' => e = .returned (.bool r) ∧ Dr_ w w' := by
 have H : (if a1 = true then ((r0_Num.f a0 15).bind fun t273 => (some t273)) else (some (a0 == 0))) = some r := h; clear h
 by_cases c3 : a1 = true
 ·subst c3; rw [if_pos rfl] at H; obtain ⟨t273, A4, H⟩ := oB_ H; obtain rfl := oI_ H; go_enter Try.func67, Try.ntmps67
  go_wp2_with (first | ((with_reducible refine gC_ (f := 35) rfl ?_); refine gL_ (some 7) Try.func35 #[.int .i64 a0, .int .i64 15] rfl ?_; (with_reducible refine (r0_Num.calls a0 15 t273 _ A4.out).mono ?_); rintro e w' ⟨rfl, ⟨nd, rfl⟩⟩; refine ⟨_, rfl, ?_⟩))
  go_ret; exact ⟨eQ_, dR_⟩
 replace c3 := eF_ c3; subst c3; rw [if_neg Bool.false_ne_true] at H; obtain rfl := oI_ H; go_enter Try.func67, Try.ntmps67; go_wp2; go_ret; exact ⟨eQ_, dR_⟩
end
end Go.Proofs.Ytibfkkjkahpobaa.PDag
