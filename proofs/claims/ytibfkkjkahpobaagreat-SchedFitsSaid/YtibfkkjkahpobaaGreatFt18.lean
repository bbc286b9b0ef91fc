import Derived.Test.YtibfkkjkahpobaaGreatFt15
import Derived.Test.YtibfkkjkahpobaaGreatFt16
import Derived.Test.YtibfkkjkahpobaaGreatFt17
import Derived.Orders
import Derived.Laws.AppendOwn
import Derived.Laws.Entries
import Derived.Laws.MakeOwn
import Derived.Laws.OwnMore
import Derived.Laws.NewFold
import Derived.Below
import Derived.KernelRfl
import Derived.WalkKit
set_option linter.unusedVariables false
set_option linter.unusedSimpArgs false
set_option maxHeartbeats 8000000
set_option maxRecDepth 100000
open Go.RowKit Go.Proofs.YtibfkkjkahpobaaGreatW.PrintWords Go.Proofs.YtibfkkjkahpobaaGreatW.PrintLast Go.Proofs.YtibfkkjkahpobaaGreatW.PrintMore
section
namespace Go.Proofs.YtibfkkjkahpobaaGreat.PDag
attribute [local go_sem] max2_int min2_int max_two min_two max_three min_three max_four min_four
mutual
def dag_dist.j0 : Nat → Int → Int → Int → Int → Int → Int → ByteArray → Int → Int → Int → Int → Int → ByteArray → Option (Int)
  | 0, _, _, _, _, _, _, _, _, _, _, _, _, _ => none
  | k + 1, x5, x263a, x263b, x263c, x263d, x263e, x263f, x264a, x264b, x264c, x264d, x264e, x264f => (isa_Effect.f k x263a).bind fun t265 => (if t265 = true then ((isa_Effect.f k x264a).bind fun t266 => (dag_dist.j1 k x5 t266 x263a x263b x263c x263d x263e x263f x264a x264b x264c x264d x264e x264f)) else (dag_dist.j1 k x5 false x263a x263b x263c x263d x263e x263f x264a x264b x264c x264d x264e x264f))
def dag_dist.j1 : Nat → Int → Bool → Int → Int → Int → Int → Int → ByteArray → Int → Int → Int → Int → Int → ByteArray → Option (Int)
  | 0, _, _, _, _, _, _, _, _, _, _, _, _, _, _ => none
  | k + 1, x5, x16, x263a, x263b, x263c, x263d, x263e, x263f, x264a, x264b, x264c, x264d, x264e, x264f => if x16 = true then (dag_dist.j2 k 1 x263a x263b x263c x263d x263e x263f x264a x264b x264c x264d x264e x264f) else (dag_dist.j2 k x5 x263a x263b x263c x263d x263e x263f x264a x264b x264c x264d x264e x264f)
def dag_dist.j2 : Nat → Int → Int → Int → Int → Int → Int → ByteArray → Int → Int → Int → Int → Int → ByteArray → Option (Int)
  | 0, _, _, _, _, _, _, _, _, _, _, _, _, _ => none
  | k + 1, x5, x263a, x263b, x263c, x263d, x263e, x263f, x264a, x264b, x264c, x264d, x264e, x264f => (dag_reads.f k x264a x264b x264c x264d x264e x264f x263a x263b x263c x263d x263e x263f).bind fun t267 => (if t267 = true then (dag_dist.j3 k x5 true x263a x263b x263c x263d x263e x263f) else ((isa_Shape.f k x264a).bind fun t268 => ((isa_HasD.f t268).bind fun t269 => (if t269 = true then ((dag_writes.f k x263a x263b x263c x263d x263e x263f x264b).bind fun t270 => (dag_dist.j3 k x5 t270 x263a x263b x263c x263d x263e x263f)) else (dag_dist.j3 k x5 false x263a x263b x263c x263d x263e x263f)))))
def dag_dist.j3 : Nat → Int → Bool → Int → Int → Int → Int → Int → ByteArray → Option (Int)
  | 0, _, _, _, _, _, _, _, _ => none
  | k + 1, x5, x31, x263a, x263b, x263c, x263d, x263e, x263f => if x31 = true then ((isa_Late.f k x263a).bind fun t271 => (some (mx x5 t271))) else (some x5)
end
def dag_dist.f (k : Nat) (a0_0 : Int) (a0_1 : Int) (a0_2 : Int) (a0_3 : Int) (a0_4 : Int) (a0_5 : ByteArray) (a1_0 : Int) (a1_1 : Int) (a1_2 : Int) (a1_3 : Int) (a1_4 : Int) (a1_5 : ByteArray) : Option (Int) := (dag_reads.f k a0_0 a0_1 a0_2 a0_3 a0_4 a0_5 a1_0 a1_1 a1_2 a1_3 a1_4 a1_5).bind fun t264 => (if t264 = true then (dag_dist.j0 k 0 a0_0 a0_1 a0_2 a0_3 a0_4 a0_5 a1_0 a1_1 a1_2 a1_3 a1_4 a1_5) else (dag_dist.j0 k (-1) a0_0 a0_1 a0_2 a0_3 a0_4 a0_5 a1_0 a1_1 a1_2 a1_3 a1_4 a1_5))
theorem dag_dist.calls (k : Nat) (a0_0 : Int) (a0_1 : Int) (a0_2 : Int) (a0_3 : Int) (a0_4 : Int) (a0_5 : ByteArray) (a1_0 : Int) (a1_1 : Int) (a1_2 : Int) (a1_3 : Int) (a1_4 : Int) (a1_5 : ByteArray) (r : Int) (w : World) (h : dag_dist.f k a0_0 a0_1 a0_2 a0_3 a0_4 a0_5 a1_0 a1_1 a1_2 a1_3 a1_4 a1_5 = some r) :
    Calls Tryz.prog 84 #[.agg #[.int .i64 a0_0, .int .i64 a0_1, .int .i64 a0_2, .int .i64 a0_3, .int .i64 a0_4, .string a0_5], .agg #[.int .i64 a1_0, .int .i64 a1_1, .int .i64 a1_2, .int .i64 a1_3, .int .i64 a1_4, .string a1_5]] w fun e w' => e = .returned (.int .i64 r) ∧ Below w.heap.size w w' := by
 have hu24 := Tryz.underlying24; have HB := aM_ (Below.refl w.heap.size w); have H : ((dag_reads.f k a0_0 a0_1 a0_2 a0_3 a0_4 a0_5 a1_0 a1_1 a1_2 a1_3 a1_4 a1_5).bind fun t264 => (if t264 = true then (dag_dist.j0 k 0 a0_0 a0_1 a0_2 a0_3 a0_4 a0_5 a1_0 a1_1 a1_2 a1_3 a1_4 a1_5) else (dag_dist.j0 k (-1) a0_0 a0_1 a0_2 a0_3 a0_4 a0_5 a1_0 a1_1 a1_2 a1_3 a1_4 a1_5))) = some r := h; clear h; obtain ⟨t264, A3, H⟩ := oB_ H; have HC4 := aM_ H; clear H; go_enter Tryz.func84, Tryz.ntmps84
 go_upto_if 8 with (first | ((with_reducible refine gate_dst (N := 2) rfl ?_); refine bX_ (N := 2) (cs := #[.int .i64 a0_0, .int .i64 a0_1, .int .i64 a0_2, .int .i64 a0_3, .int .i64 a0_4, .string a0_5]) (t := 24) ?_; intro gb262 hg w5 hbox hb; replace BK262 := aM_ (hbox); replace GW262 := aM_ (gE_ hg (bl_ HB)); replace GE262 := aM_ (gE_ hg (bl_ HB)); replace HB := aM_ (bT_ (bl_ HB) hb); clear hb hbox hg) | ((with_reducible refine gate_dst (N := 3) rfl ?_); refine bX_ (N := 3) (cs := #[.int .i64 a1_0, .int .i64 a1_1, .int .i64 a1_2, .int .i64 a1_3, .int .i64 a1_4, .string a1_5]) (t := 24) ?_; intro gb263 hg w6 hbox hb; replace BK263 := aM_ (hbox); replace GW263 := aM_ (gE_ hg (bs_ HB GE262)); replace GE263 := aM_ (gE_ hg (bs_ HB GE262)); replace HB := aM_ (bT_ (bs_ HB GE262) hb); replace NB262_263 := aM_ ((by rw [hg]; exact Nat.ne_of_lt (blk_lt (g := gb262) (o := .cells #[.int .i64 a0_0, .int .i64 a0_1, .int .i64 a0_2, .int .i64 a0_3, .int .i64 a0_4, .string a0_5] 24 (0, 0)) (rB_ BK262)) : gb262 ≠ gb263)); replace NB263_262 := aM_ ((by rw [hg]; exact Nat.ne_of_gt (blk_lt (g := gb262) (o := .cells #[.int .i64 a0_0, .int .i64 a0_1, .int .i64 a0_2, .int .i64 a0_3, .int .i64 a0_4, .string a0_5] 24 (0, 0)) (rB_ BK262)) : gb263 ≠ gb262)); replace BK262 := aM_ (kB_ (rB_ BK262) hb); clear hb hbox hg; have hnb7 := NB262_263.out; have hnc7 := NB263_262.out; obtain ⟨hcz8_0, hcz8_1, hcz8_2, hcz8_3, hcz8_4, hcz8_5⟩ := cl6_ BK262.out; obtain ⟨hfz8_0, hfz8_1, hfz8_2, hfz8_3, hfz8_4, hfz8_5⟩ := fz6_ BK262.out; obtain ⟨hcz9_0, hcz9_1, hcz9_2, hcz9_3, hcz9_4, hcz9_5⟩ := cl6_ BK263.out; obtain ⟨hfz9_0, hfz9_1, hfz9_2, hfz9_3, hfz9_4, hfz9_5⟩ := fz6_ BK263.out) | ((with_reducible refine gC_ (f := 101) rfl ?_); refine gL_ (some 8) Tryz.func101 #[.agg #[.int .i64 a0_0, .int .i64 a0_1, .int .i64 a0_2, .int .i64 a0_3, .int .i64 a0_4, .string a0_5], .agg #[.int .i64 a1_0, .int .i64 a1_1, .int .i64 a1_2, .int .i64 a1_3, .int .i64 a1_4, .string a1_5]] rfl ?_; (with_reducible refine (dag_reads.calls k a0_0 a0_1 a0_2 a0_3 a0_4 a0_5 a1_0 a1_1 a1_2 a1_3 a1_4 a1_5 t264 _ A3.out).mono ?_); rintro e w10 ⟨rfl, hb⟩; refine ⟨_, rfl, ?_⟩; replace BK262 := aM_ (kB_ (rB_ BK262) hb); replace BK263 := aM_ (kB_ (rB_ BK263) hb); replace HB := aM_ (bT_ (bt_ HB GE262 GE263) hb)))
 (try simp only [Act.put, List.setIfInBounds_toArray, List.set_cons_zero, List.set_cons_succ])
 go_cut [5] (fun v5 wc => ∃ (kq : Nat) (x5_3 : Int), v5 = .int .i64 x5_3 ∧ As_ (dag_dist.j0 kq x5_3 a0_0 a0_1 a0_2 a0_3 a0_4 a0_5 a1_0 a1_1 a1_2 a1_3 a1_4 a1_5 = some r) ∧ As_ (kq ≤ k) ∧ As_ (wc.heap[gb262]? = some (.cells #[.int .i64 a0_0, .int .i64 a0_1, .int .i64 a0_2, .int .i64 a0_3, .int .i64 a0_4, .string a0_5] 24 (0, 0))) ∧ As_ (wc.heap[gb263]? = some (.cells #[.int .i64 a1_0, .int .i64 a1_1, .int .i64 a1_2, .int .i64 a1_3, .int .i64 a1_4, .string a1_5] 24 (0, 0))) ∧ As_ (Below w.heap.size w wc))
 case first =>
  have H := HC4.out; clear HC4
  by_cases c11 : t264 = true
  ·subst c11; rw [if_pos rfl] at H; replace H := aM_ H; go_wp2
   go_meet
   case rel => exact ⟨_, (0), eQ_, H, ⟨by first | omega | exact Nat.le_refl _⟩, ⟨rB_ BK262⟩, ⟨rB_ BK263⟩, ⟨bt_ HB GE262 GE263⟩⟩
  replace c11 := eF_ c11; subst c11; rw [if_neg Bool.false_ne_true] at H; replace H := aM_ H; go_wp2
  go_meet
  case rel => exact ⟨_, ((-1)), eQ_, H, ⟨by first | omega | exact Nat.le_refl _⟩, ⟨rB_ BK262⟩, ⟨rB_ BK263⟩, ⟨bt_ HB GE262 GE263⟩⟩
 case rest =>
  clear HC4; obtain ⟨kq, x5_3, rfl, HA, HJ3, BK262, BK263, HB⟩ := hcut
  cases kq with
  | zero => exact absurd HA.out (by simp [dag_dist.j0])
  | succ kj3 =>
   have H := HA.out; clear HA; simp only [dag_dist.j0] at H; have HC12 := aM_ H; clear H
   go_upto_region 4 with (fail)
   go_cut [16] (fun v16 wc => ∃ (kq : Nat) (x16_11 : Bool), v16 = .bool x16_11 ∧ As_ (dag_dist.j1 kq x5_3 x16_11 a0_0 a0_1 a0_2 a0_3 a0_4 a0_5 a1_0 a1_1 a1_2 a1_3 a1_4 a1_5 = some r) ∧ As_ (kq ≤ kj3) ∧ As_ (wc.heap[gb262]? = some (.cells #[.int .i64 a0_0, .int .i64 a0_1, .int .i64 a0_2, .int .i64 a0_3, .int .i64 a0_4, .string a0_5] 24 (0, 0))) ∧ As_ (wc.heap[gb263]? = some (.cells #[.int .i64 a1_0, .int .i64 a1_1, .int .i64 a1_2, .int .i64 a1_3, .int .i64 a1_4, .string a1_5] 24 (0, 0))) ∧ As_ (Below w.heap.size w wc))
   case first =>
    have H := HC12.out; clear HC12; obtain ⟨t265, A13, H⟩ := oB_ H
    by_cases c14 : t265 = true
    ·subst c14; rw [if_pos rfl] at H; obtain ⟨t266, A15, H⟩ := oB_ H; replace H := aM_ H; have hnb16 := NB262_263.out; have hnc16 := NB263_262.out; obtain ⟨hcz17_0, hcz17_1, hcz17_2, hcz17_3, hcz17_4, hcz17_5⟩ := cl6_ BK262.out; obtain ⟨hfz17_0, hfz17_1, hfz17_2, hfz17_3, hfz17_4, hfz17_5⟩ := fz6_ BK262.out
     go_wp2_with (first | ((with_reducible refine gC_ (f := 98) rfl ?_); refine gL_ (some 11) Tryz.func98 #[.int .i64 a0_0] rfl ?_; (with_reducible refine (isa_Effect.calls kj3 a0_0 true _ A13.out).mono ?_); rintro e w' ⟨rfl, ⟨nd, rfl⟩⟩; refine ⟨_, rfl, ?_⟩; obtain ⟨hcz18_0, hcz18_1, hcz18_2, hcz18_3, hcz18_4, hcz18_5⟩ := cl6_ BK263.out; obtain ⟨hfz18_0, hfz18_1, hfz18_2, hfz18_3, hfz18_4, hfz18_5⟩ := fz6_ BK263.out) | (go_at_call 98; (with_reducible refine (isa_Effect.calls kj3 a1_0 t266 _ A15.out).mono ?_); rintro e w' ⟨rfl, ⟨nd, rfl⟩⟩))
     go_meet
     case rel => exact ⟨_, (t266), eQ_, H, ⟨by have := HJ3.out; first | omega | exact Nat.le_refl _⟩, ⟨rB_ BK262⟩, ⟨rB_ BK263⟩, ⟨bt_ HB GE262 GE263⟩⟩
    replace c14 := eF_ c14; subst c14; rw [if_neg Bool.false_ne_true] at H; replace H := aM_ H; have hnb19 := NB262_263.out; have hnc19 := NB263_262.out; obtain ⟨hcz20_0, hcz20_1, hcz20_2, hcz20_3, hcz20_4, hcz20_5⟩ := cl6_ BK262.out; obtain ⟨hfz20_0, hfz20_1, hfz20_2, hfz20_3, hfz20_4, hfz20_5⟩ := fz6_ BK262.out
    go_wp2_with (first | ((with_reducible refine gC_ (f := 98) rfl ?_); refine gL_ (some 11) Tryz.func98 #[.int .i64 a0_0] rfl ?_; (with_reducible refine (isa_Effect.calls kj3 a0_0 false _ A13.out).mono ?_); rintro e w' ⟨rfl, ⟨nd, rfl⟩⟩; refine ⟨_, rfl, ?_⟩))
    go_meet
    case rel => exact ⟨_, (false), eQ_, H, ⟨by have := HJ3.out; first | omega | exact Nat.le_refl _⟩, ⟨rB_ BK262⟩, ⟨rB_ BK263⟩, ⟨bt_ HB GE262 GE263⟩⟩
   case rest =>
    clear HC12; obtain ⟨kq, x16_11, rfl, HA, HJ11, BK262, BK263, HB⟩ := hcut
    cases kq with
    | zero => exact absurd HA.out (by simp [dag_dist.j1])
    | succ kj11 =>
     have H := HA.out; clear HA; simp only [dag_dist.j1] at H; have HC21 := aM_ H; clear H
     go_upto_if 16 with (fail)
     go_cut [5] (fun v5 wc => ∃ (kq : Nat) (x5_20 : Int), v5 = .int .i64 x5_20 ∧ As_ (dag_dist.j2 kq x5_20 a0_0 a0_1 a0_2 a0_3 a0_4 a0_5 a1_0 a1_1 a1_2 a1_3 a1_4 a1_5 = some r) ∧ As_ (kq ≤ kj11) ∧ As_ (wc.heap[gb262]? = some (.cells #[.int .i64 a0_0, .int .i64 a0_1, .int .i64 a0_2, .int .i64 a0_3, .int .i64 a0_4, .string a0_5] 24 (0, 0))) ∧ As_ (wc.heap[gb263]? = some (.cells #[.int .i64 a1_0, .int .i64 a1_1, .int .i64 a1_2, .int .i64 a1_3, .int .i64 a1_4, .string a1_5] 24 (0, 0))) ∧ As_ (Below w.heap.size w wc))
     case first =>
      have H := HC21.out; clear HC21
      by_cases c22 : x16_11 = true
      ·subst c22; rw [if_pos rfl] at H; replace H := aM_ H; go_wp2
       go_meet
       case rel => exact ⟨_, (1), eQ_, H, ⟨by have := HJ3.out; have := HJ11.out; first | omega | exact Nat.le_refl _⟩, ⟨rB_ BK262⟩, ⟨rB_ BK263⟩, ⟨bt_ HB GE262 GE263⟩⟩
      replace c22 := eF_ c22; subst c22; rw [if_neg Bool.false_ne_true] at H; replace H := aM_ H; go_wp2
      go_meet
      case rel => exact ⟨_, (x5_3), eQ_, H, ⟨by have := HJ3.out; have := HJ11.out; first | omega | exact Nat.le_refl _⟩, ⟨rB_ BK262⟩, ⟨rB_ BK263⟩, ⟨bt_ HB GE262 GE263⟩⟩
     case rest =>
      clear HC21; obtain ⟨kq, x5_20, rfl, HA, HJ20, BK262, BK263, HB⟩ := hcut
      cases kq with
      | zero => exact absurd HA.out (by simp [dag_dist.j2])
      | succ kj20 =>
       have H := HA.out; clear HA; simp only [dag_dist.j2] at H; have HC23 := aM_ H; clear H
       go_upto_region 6 with (fail)
       go_cut [31] (fun v31 wc => ∃ (kq : Nat) (x31_22 : Bool), v31 = .bool x31_22 ∧ As_ (dag_dist.j3 kq x5_20 x31_22 a0_0 a0_1 a0_2 a0_3 a0_4 a0_5 = some r) ∧ As_ (kq ≤ kj20) ∧ As_ (wc.heap[gb262]? = some (.cells #[.int .i64 a0_0, .int .i64 a0_1, .int .i64 a0_2, .int .i64 a0_3, .int .i64 a0_4, .string a0_5] 24 (0, 0))) ∧ As_ (wc.heap[gb263]? = some (.cells #[.int .i64 a1_0, .int .i64 a1_1, .int .i64 a1_2, .int .i64 a1_3, .int .i64 a1_4, .string a1_5] 24 (0, 0))) ∧ As_ (Below w.heap.size w wc))
       case first =>
        have H := HC23.out; clear HC23; obtain ⟨t267, A24, H⟩ := oB_ H
        by_cases c25 : t267 = true
        ·subst c25; rw [if_pos rfl] at H; replace H := aM_ H; have hnb26 := NB263_262.out; have hnc26 := NB262_263.out; obtain ⟨hcz27_0, hcz27_1, hcz27_2, hcz27_3, hcz27_4, hcz27_5⟩ := cl6_ BK263.out; obtain ⟨hfz27_0, hfz27_1, hfz27_2, hfz27_3, hfz27_4, hfz27_5⟩ := fz6_ BK263.out; obtain ⟨hcz28_0, hcz28_1, hcz28_2, hcz28_3, hcz28_4, hcz28_5⟩ := cl6_ BK262.out; obtain ⟨hfz28_0, hfz28_1, hfz28_2, hfz28_3, hfz28_4, hfz28_5⟩ := fz6_ BK262.out
         go_wp2_with (first | ((with_reducible refine gC_ (f := 101) rfl ?_); refine gL_ (some 19) Tryz.func101 #[.agg #[.int .i64 a1_0, .int .i64 a1_1, .int .i64 a1_2, .int .i64 a1_3, .int .i64 a1_4, .string a1_5], .agg #[.int .i64 a0_0, .int .i64 a0_1, .int .i64 a0_2, .int .i64 a0_3, .int .i64 a0_4, .string a0_5]] rfl ?_; (with_reducible refine (dag_reads.calls kj20 a1_0 a1_1 a1_2 a1_3 a1_4 a1_5 a0_0 a0_1 a0_2 a0_3 a0_4 a0_5 true _ A24.out).mono ?_); rintro e w29 ⟨rfl, hb⟩; refine ⟨_, rfl, ?_⟩; replace BK262 := aM_ (kB_ (rB_ BK262) hb); replace BK263 := aM_ (kB_ (rB_ BK263) hb); replace HB := aM_ (bT_ (bt_ HB GE262 GE263) hb)))
         go_meet
         case rel => exact ⟨_, (true), eQ_, H, ⟨by have := HJ3.out; have := HJ11.out; have := HJ20.out; first | omega | exact Nat.le_refl _⟩, ⟨rB_ BK262⟩, ⟨rB_ BK263⟩, ⟨bt_ HB GE262 GE263⟩⟩
        replace c25 := eF_ c25; subst c25; rw [if_neg Bool.false_ne_true] at H; obtain ⟨t268, A30, H⟩ := oB_ H; obtain ⟨t269, A31, H⟩ := oB_ H
        by_cases c32 : t269 = true
        ·subst c32; rw [if_pos rfl] at H; obtain ⟨t270, A33, H⟩ := oB_ H; replace H := aM_ H; have hnb34 := NB263_262.out; have hnc34 := NB262_263.out; obtain ⟨hcz35_0, hcz35_1, hcz35_2, hcz35_3, hcz35_4, hcz35_5⟩ := cl6_ BK263.out; obtain ⟨hfz35_0, hfz35_1, hfz35_2, hfz35_3, hfz35_4, hfz35_5⟩ := fz6_ BK263.out; obtain ⟨hcz36_0, hcz36_1, hcz36_2, hcz36_3, hcz36_4, hcz36_5⟩ := cl6_ BK262.out; obtain ⟨hfz36_0, hfz36_1, hfz36_2, hfz36_3, hfz36_4, hfz36_5⟩ := fz6_ BK262.out
         go_wp2_with (first | ((with_reducible refine gC_ (f := 101) rfl ?_); refine gL_ (some 19) Tryz.func101 #[.agg #[.int .i64 a1_0, .int .i64 a1_1, .int .i64 a1_2, .int .i64 a1_3, .int .i64 a1_4, .string a1_5], .agg #[.int .i64 a0_0, .int .i64 a0_1, .int .i64 a0_2, .int .i64 a0_3, .int .i64 a0_4, .string a0_5]] rfl ?_; (with_reducible refine (dag_reads.calls kj20 a1_0 a1_1 a1_2 a1_3 a1_4 a1_5 a0_0 a0_1 a0_2 a0_3 a0_4 a0_5 false _ A24.out).mono ?_); rintro e w37 ⟨rfl, hb⟩; refine ⟨_, rfl, ?_⟩; replace BK262 := aM_ (kB_ (rB_ BK262) hb); replace BK263 := aM_ (kB_ (rB_ BK263) hb); replace HB := aM_ (bT_ (bt_ HB GE262 GE263) hb); obtain ⟨hcz38_0, hcz38_1, hcz38_2, hcz38_3, hcz38_4, hcz38_5⟩ := cl6_ BK263.out; obtain ⟨hfz38_0, hfz38_1, hfz38_2, hfz38_3, hfz38_4, hfz38_5⟩ := fz6_ BK263.out) | (go_at_call 89; (with_reducible refine (isa_Shape.calls kj20 a1_0 t268 _ A30.out).mono ?_); rintro e w' ⟨rfl, ⟨nd, rfl⟩⟩) | (go_at_call 91; (with_reducible refine (isa_HasD.calls t268 true _ A31.out).mono ?_); rintro e w' ⟨rfl, ⟨nd, rfl⟩⟩; obtain ⟨hcz39_0, hcz39_1, hcz39_2, hcz39_3, hcz39_4, hcz39_5⟩ := cl6_ BK262.out; obtain ⟨hfz39_0, hfz39_1, hfz39_2, hfz39_3, hfz39_4, hfz39_5⟩ := fz6_ BK262.out) | (go_at_call 102; (with_reducible refine (dag_writes.calls kj20 a0_0 a0_1 a0_2 a0_3 a0_4 a0_5 a1_1 t270 _ A33.out).mono ?_); rintro e w40 ⟨rfl, hb⟩; replace BK262 := aM_ (kB_ (rB_ BK262) hb); replace BK263 := aM_ (kB_ (rB_ BK263) hb); replace HB := aM_ (bT_ (bt_ HB GE262 GE263) hb)))
         go_meet
         case rel => exact ⟨_, (t270), eQ_, H, ⟨by have := HJ3.out; have := HJ11.out; have := HJ20.out; first | omega | exact Nat.le_refl _⟩, ⟨rB_ BK262⟩, ⟨rB_ BK263⟩, ⟨bt_ HB GE262 GE263⟩⟩
        replace c32 := eF_ c32; subst c32; rw [if_neg Bool.false_ne_true] at H; replace H := aM_ H; have hnb41 := NB263_262.out; have hnc41 := NB262_263.out; obtain ⟨hcz42_0, hcz42_1, hcz42_2, hcz42_3, hcz42_4, hcz42_5⟩ := cl6_ BK263.out; obtain ⟨hfz42_0, hfz42_1, hfz42_2, hfz42_3, hfz42_4, hfz42_5⟩ := fz6_ BK263.out; obtain ⟨hcz43_0, hcz43_1, hcz43_2, hcz43_3, hcz43_4, hcz43_5⟩ := cl6_ BK262.out; obtain ⟨hfz43_0, hfz43_1, hfz43_2, hfz43_3, hfz43_4, hfz43_5⟩ := fz6_ BK262.out
        go_wp2_with (first | ((with_reducible refine gC_ (f := 101) rfl ?_); refine gL_ (some 19) Tryz.func101 #[.agg #[.int .i64 a1_0, .int .i64 a1_1, .int .i64 a1_2, .int .i64 a1_3, .int .i64 a1_4, .string a1_5], .agg #[.int .i64 a0_0, .int .i64 a0_1, .int .i64 a0_2, .int .i64 a0_3, .int .i64 a0_4, .string a0_5]] rfl ?_; (with_reducible refine (dag_reads.calls kj20 a1_0 a1_1 a1_2 a1_3 a1_4 a1_5 a0_0 a0_1 a0_2 a0_3 a0_4 a0_5 false _ A24.out).mono ?_); rintro e w44 ⟨rfl, hb⟩; refine ⟨_, rfl, ?_⟩; replace BK262 := aM_ (kB_ (rB_ BK262) hb); replace BK263 := aM_ (kB_ (rB_ BK263) hb); replace HB := aM_ (bT_ (bt_ HB GE262 GE263) hb); obtain ⟨hcz45_0, hcz45_1, hcz45_2, hcz45_3, hcz45_4, hcz45_5⟩ := cl6_ BK263.out; obtain ⟨hfz45_0, hfz45_1, hfz45_2, hfz45_3, hfz45_4, hfz45_5⟩ := fz6_ BK263.out) | (go_at_call 89; (with_reducible refine (isa_Shape.calls kj20 a1_0 t268 _ A30.out).mono ?_); rintro e w' ⟨rfl, ⟨nd, rfl⟩⟩) | (go_at_call 91; (with_reducible refine (isa_HasD.calls t268 false _ A31.out).mono ?_); rintro e w' ⟨rfl, ⟨nd, rfl⟩⟩))
        go_meet
        case rel => exact ⟨_, (false), eQ_, H, ⟨by have := HJ3.out; have := HJ11.out; have := HJ20.out; first | omega | exact Nat.le_refl _⟩, ⟨rB_ BK262⟩, ⟨rB_ BK263⟩, ⟨bt_ HB GE262 GE263⟩⟩
       case rest =>
        clear HC23; obtain ⟨kq, x31_22, rfl, HA, HJ22, BK262, BK263, HB⟩ := hcut
        cases kq with
        | zero => exact absurd HA.out (by simp [dag_dist.j3])
        | succ kj22 =>
         have H := HA.out; clear HA; simp only [dag_dist.j3] at H
         by_cases c46 : x31_22 = true
         ·subst c46; rw [if_pos rfl] at H; obtain ⟨t271, A47, H⟩ := oB_ H; obtain ⟨ji48, hji48⟩ : ∃ j_ : Int, (mx x5_20 t271) = j_ := ⟨_, rfl⟩
          replace H : (some ji48) = some r := by first | (rw [hji48] at H; exact H) | (simp only [hji48] at H ⊢; exact H)
          (try rw [hji48] at A47)
          have hji48_ : (if x5_20 < t271 then t271 else x5_20) = ji48 := hji48; obtain rfl := oI_ H; have hnb49 := NB262_263.out; have hnc49 := NB263_262.out; obtain ⟨hcz50_0, hcz50_1, hcz50_2, hcz50_3, hcz50_4, hcz50_5⟩ := cl6_ BK262.out; obtain ⟨hfz50_0, hfz50_1, hfz50_2, hfz50_3, hfz50_4, hfz50_5⟩ := fz6_ BK262.out
          go_wp2_with (first | ((with_reducible refine gC_ (f := 95) rfl ?_); refine gL_ (some 35) Tryz.func95 #[.int .i64 a0_0] rfl ?_; (with_reducible refine (isa_Late.calls kj22 a0_0 t271 _ A47.out).mono ?_); rintro e w' ⟨rfl, ⟨nd, rfl⟩⟩; refine ⟨_, rfl, ?_⟩))
          go_ret; exact ⟨by first | rfl | (simp [eN_, eS_] <;> rfl) | (simp only [← hji48]; first | rfl | (simp [eN_, eS_] <;> rfl)) | (simp [*, eN_, eS_] <;> rfl), bt_ HB GE262 GE263⟩
         replace c46 := eF_ c46; subst c46; rw [if_neg Bool.false_ne_true] at H; obtain rfl := oI_ H; go_wp2; go_ret; exact ⟨eR_, bt_ HB GE262 GE263⟩
end Go.Proofs.YtibfkkjkahpobaaGreat.PDag
end
section
namespace Go.Proofs.YtibfkkjkahpobaaGreat.PDag
attribute [local go_sem] max2_int min2_int max_two min_two max_three min_three max_four min_four
mutual
def dag_Edges.l0 : Nat → List (S24) → List (S100) → List (S24) → Int → Int → Option ((List (S100)))
  | 0, _, _, _, _, _ => none
  | k + 1, x0, x2, x8, x9, x10 => if x10 < x9 then (if 0 ≤ x10 then (if x10 < (x8.length : Int) then (if 0 ≤ (wrap64 (x10 + 1)) then (if (wrap64 (x10 + 1)) ≤ (x0.length : Int) then ((some (x0.drop ((wrap64 (x10 + 1)) : Int).toNat : List (S24))).bind fun y274 => (dag_Edges.l1 k x0 x2 x10 x8 x9 x10 y274 (y274.length : Int) 0 ((J24 x8 x10).f0) ((J24 x8 x10).f1) ((J24 x8 x10).f2) ((J24 x8 x10).f3) ((J24 x8 x10).f4) ((J24 x8 x10).f5))) else (none)) else (none)) else (none)) else (none)) else (some x2)
def dag_Edges.l1 : Nat → List (S24) → List (S100) → Int → List (S24) → Int → Int → List (S24) → Int → Int → Int → Int → Int → Int → Int → ByteArray → Option ((List (S100)))
  | 0, _, _, _, _, _, _, _, _, _, _, _, _, _, _, _ => none
  | k + 1, x0, x2, x3, x8, x9, x10, x18, x19, x20, x274a, x274b, x274c, x274d, x274e, x274f => if x20 < x19 then (if 0 ≤ x20 then (if x20 < (x18.length : Int) then ((dag_dist.f k x274a x274b x274c x274d x274e x274f ((J24 x18 x20).f0) ((J24 x18 x20).f1) ((J24 x18 x20).f2) ((J24 x18 x20).f3) ((J24 x18 x20).f4) ((J24 x18 x20).f5)).bind fun t280 => (if t280 ≥ 0 then (if x2.length < 5864062014805 then (dag_Edges.l1 k x0 (x2 ++ [(⟨x3, wrap64 ((wrap64 (x3 + 1)) + x20), t280⟩ : S100)]) x3 x8 x9 x10 x18 x19 (wrap64 (x20 + 1)) x274a x274b x274c x274d x274e x274f) else (none)) else (dag_Edges.l1 k x0 x2 x3 x8 x9 x10 x18 x19 (wrap64 (x20 + 1)) x274a x274b x274c x274d x274e x274f))) else (none)) else (none)) else (dag_Edges.l0 k x0 x2 x8 x9 (wrap64 (x10 + 1)))
end
def dag_Edges.f (k : Nat) (l0 : List (S24)) : Option ((List (S100))) := dag_Edges.l0 k l0 ([] : List (S100)) l0 (l0.length : Int) 0
theorem dag_Edges.calls (k : Nat) (A0 : Option Addr) (c0 : Nat) (l0 : List (S24)) (r : List (S100)) (w : World) (hr0 : Kd.C k24 w A0 l0.length l0) (hc0 : l0.length ≤ c0) (h : dag_Edges.f k l0 = some r) :
    Calls Tryz.prog 52 #[.slice A0 l0.length c0] w fun e w' => ∃ v0_ : Value, e = .returned (v0_) ∧ Kd.R k100 100 w' w.heap.size (fun _ => True) v0_ r ∧ Below w.heap.size w w' := by
 have hu24 := Tryz.underlying24; have hu100 := Tryz.underlying100; have HR0 := aM_ hr0; have HC0 := aM_ hc0; clear hr0 hc0; have HB := aM_ (Below.refl w.heap.size w); have H : (dag_Edges.l0 k l0 ([] : List (S100)) l0 (l0.length : Int) 0) = some r := h; clear h; replace H := aM_ H; go_enter Tryz.func52, Tryz.ntmps52; go_wp2
 go_loopg [2, 10] k (fun kq v2 v10 w' => ∃ (x2_1 : List (S100)) (x10_1 : Int), v10 = .int .i64 x10_1 ∧ As_ (dag_Edges.l0 kq l0 x2_1 l0 (l0.length : Int) x10_1 = some r) ∧ As_ (kq ≤ k) ∧ As_ (Kd.R k100 100 w' w.heap.size (fun _ => True) v2 x2_1) ∧ As_ (Below w.heap.size w w'))
 case atStart => exact ⟨(([] : List (S100))), (0), eQ_, H, ⟨Nat.le_refl _⟩, ⟨by first | exact Kd.R_nil _ _ _ _ _ | exact Kd.N_nil _ _ _ _ _ | exact Kd.V_nil _ _ _ _ _ | exact Kd.Q_nil _ _ _ _ _ | exact Kd.S_nil _ _ _ _ _⟩, ⟨bl_ HB⟩⟩
 case round =>
  clear H; obtain ⟨x2_1, x10_1, rfl, HA, HK1, HO_2, HB⟩ := hrel
  cases gk with
  | zero => exact absurd HA.out (by simp [dag_Edges.l0])
  | succ k1 =>
   have H := HA.out; clear HA; simp only [dag_Edges.l0] at H
   by_cases c2 : x10_1 < (l0.length : Int)
   ·rw [if_pos c2] at H; have c2b0 := dE_ c2; clear c2
    by_cases c3 : 0 ≤ x10_1
    ·rw [if_pos c3] at H; have c3b0 := dE_ c3; clear c3
     by_cases c4 : x10_1 < (l0.length : Int)
     ·rw [if_pos c4] at H; have c4b0 := dE_ c4; clear c4; obtain ⟨ji5, hji5⟩ : ∃ j_ : Int, (wrap64 (x10_1 + 1)) = j_ := ⟨_, rfl⟩
      replace H : (if 0 ≤ (ji5) then (if (ji5) ≤ (l0.length : Int) then ((some (l0.drop ((ji5) : Int).toNat : List (S24))).bind fun y274 => (dag_Edges.l1 k1 l0 x2_1 x10_1 l0 (l0.length : Int) x10_1 y274 (y274.length : Int) 0 ((J24 l0 x10_1).f0) ((J24 l0 x10_1).f1) ((J24 l0 x10_1).f2) ((J24 l0 x10_1).f3) ((J24 l0 x10_1).f4) ((J24 l0 x10_1).f5))) else (none)) else (none)) = some r := by first | (rw [hji5] at H; exact H) | (simp only [hji5] at H ⊢; exact H)
      have hji5w : (IntKind.i64.wrap (x10_1 + 1)) = ji5 := (i64_w _).trans hji5
      by_cases c6 : 0 ≤ (ji5)
      ·rw [if_pos c6] at H; have c6b0 := eq_true c6; have c6b1 := dE_ c6; clear c6
       by_cases c7 : (ji5) ≤ (l0.length : Int)
       ·rw [if_pos c7] at H; have c7b0 := eq_true c7; have c7b1 := dE_ c7; clear c7; obtain ⟨y274, hy274⟩ : ∃ y_ : List (S24), y_ = (l0.drop ((ji5) : Int).toNat) := ⟨_, rfl⟩
        replace H : (dag_Edges.l1 k1 l0 x2_1 x10_1 l0 (l0.length : Int) x10_1 y274 (y274.length : Int) 0 ((J24 l0 x10_1).f0) ((J24 l0 x10_1).f1) ((J24 l0 x10_1).f2) ((J24 l0 x10_1).f3) ((J24 l0 x10_1).f4) ((J24 l0 x10_1).f5)) = some r := by first | (rw [hy274]; with_reducible exact H) | (have H2_ := (Option.bind_some _ _).symm.trans H; rw [hy274]; with_reducible exact H2_) | (have H2_ := (Option.bind_some _ _).symm.trans H; with_reducible exact H2_) | with_reducible exact H | (rw [hy274]; exact H) | exact H
        have Ny274 := aM_ hy274; clear hy274; replace H := aM_ H; have p272 : 0 ≤ (x10_1 : Int) := oD_; have q272 : x10_1 < (l0.length : Int) := oD_; obtain ⟨ad272, e272, hx272_0, hx272_1, hx272_2, hx272_3, hx272_4, hx272_5⟩ := at_T24 HR0.out x10_1 p272 q272
        cases e272
        replace hx272_0 := hC_ HB hx272_0; replace hx272_1 := hC_ HB hx272_1; replace hx272_2 := hC_ HB hx272_2; replace hx272_3 := hC_ HB hx272_3; replace hx272_4 := hC_ HB hx272_4; replace hx272_5 := hC_ HB hx272_5; replace p272 := eq_true p272; replace q272 := eq_true q272
        go_wp2_with (first | ((with_reducible refine gate_dst (N := 4) rfl ?_); refine bX_ (N := 4) (cs := #[.int .i64 0, .int .i64 0, .int .i64 0, .int .i64 0, .int .i64 0, .string (⟨#[]⟩ : ByteArray)]) (t := 24) ?_; intro gb273 hg w8 hbox hb; replace HO_2 := aM_ (Kd.R_below (rR_ HO_2) hb); replace BK273 := aM_ (hbox); replace GW273 := aM_ (gE_ hg (bl_ HB)); replace GE273 := aM_ (gE_ hg (bl_ HB)); replace HB := aM_ (bT_ (bl_ HB) hb); clear hb hbox hg; obtain ⟨hcz9_0, hcz9_1, hcz9_2, hcz9_3, hcz9_4, hcz9_5⟩ := cl6_ BK273.out; obtain ⟨hfz9_0, hfz9_1, hfz9_2, hfz9_3, hfz9_4, hfz9_5⟩ := fz6_ BK273.out) | ((with_reducible refine gate_store (t := 24) (p := 4) rfl ?_); refine store_event (t := 24) (p := 4) (v := ?vo_w10) (w1 := ((((((w8.setCell ⟨gb273, 0, none⟩ (.int .i64 ((J24 l0 x10_1).f0))).setCell ⟨gb273, 1, none⟩ (.int .i64 ((J24 l0 x10_1).f1))).setCell ⟨gb273, 2, none⟩ (.int .i64 ((J24 l0 x10_1).f2))).setCell ⟨gb273, 3, none⟩ (.int .i64 ((J24 l0 x10_1).f3))).setCell ⟨gb273, 4, none⟩ (.int .i64 ((J24 l0 x10_1).f4))).setCell ⟨gb273, 5, none⟩ (.string ((J24 l0 x10_1).f5)))) ?hg ?ho ?hn ?hr ?_; (case ho => rfl); (case hg => rfl); (case hn => rfl); (case hr => first | (go_simp; done) | (go_simp; rfl)); intro w10 hw; replace HO_2 : As_ (Kd.R k100 100 w10 w.heap.size (fun _ => True) u2 x2_1) := ⟨(by rw [hw]; exact (by (with_reducible repeat (first | apply Kd.R_alloc | apply Kd.R_drewN | apply Kd.R_drew)); exact Kd.R_mono (Kd.R_far (p := ⟨gb273, 5, none⟩) (Kd.R_far (p := ⟨gb273, 4, none⟩) (Kd.R_far (p := ⟨gb273, 3, none⟩) (Kd.R_far (p := ⟨gb273, 2, none⟩) (Kd.R_far (p := ⟨gb273, 1, none⟩) (Kd.R_far (p := ⟨gb273, 0, none⟩) (Kd.R_types HO_2.out BK273.out (by decide)) (fun _ hk => hk.2) (.int .i64 ((J24 l0 x10_1).f0))) (fun _ hk => hk.2) (.int .i64 ((J24 l0 x10_1).f1))) (fun _ hk => hk.2) (.int .i64 ((J24 l0 x10_1).f2))) (fun _ hk => hk.2) (.int .i64 ((J24 l0 x10_1).f3))) (fun _ hk => hk.2) (.int .i64 ((J24 l0 x10_1).f4))) (fun _ hk => hk.2) (.string ((J24 l0 x10_1).f5))) (fun _ hk => trivial)))⟩; replace BK273 : As_ (w10.heap[gb273]? = some (.cells #[.int .i64 ((J24 l0 x10_1).f0), .int .i64 ((J24 l0 x10_1).f1), .int .i64 ((J24 l0 x10_1).f2), .int .i64 ((J24 l0 x10_1).f3), .int .i64 ((J24 l0 x10_1).f4), .string ((J24 l0 x10_1).f5)] 24 (0, 0))) := ⟨(by rw [hw]; exact (by (with_reducible repeat (first | refine kN_ ?_ _ | refine kD_ ?_ | refine kA_ ?_ _)); refine blk_put (cs := #[.int .i64 ((J24 l0 x10_1).f0), .int .i64 ((J24 l0 x10_1).f1), .int .i64 ((J24 l0 x10_1).f2), .int .i64 ((J24 l0 x10_1).f3), .int .i64 ((J24 l0 x10_1).f4), .string (⟨#[]⟩ : ByteArray)]) ?_ 5 _ rfl; (with_reducible repeat (first | refine kN_ ?_ _ | refine kD_ ?_ | refine kA_ ?_ _)); refine blk_put (cs := #[.int .i64 ((J24 l0 x10_1).f0), .int .i64 ((J24 l0 x10_1).f1), .int .i64 ((J24 l0 x10_1).f2), .int .i64 ((J24 l0 x10_1).f3), .int .i64 0, .string (⟨#[]⟩ : ByteArray)]) ?_ 4 _ rfl; (with_reducible repeat (first | refine kN_ ?_ _ | refine kD_ ?_ | refine kA_ ?_ _)); refine blk_put (cs := #[.int .i64 ((J24 l0 x10_1).f0), .int .i64 ((J24 l0 x10_1).f1), .int .i64 ((J24 l0 x10_1).f2), .int .i64 0, .int .i64 0, .string (⟨#[]⟩ : ByteArray)]) ?_ 3 _ rfl; (with_reducible repeat (first | refine kN_ ?_ _ | refine kD_ ?_ | refine kA_ ?_ _)); refine blk_put (cs := #[.int .i64 ((J24 l0 x10_1).f0), .int .i64 ((J24 l0 x10_1).f1), .int .i64 0, .int .i64 0, .int .i64 0, .string (⟨#[]⟩ : ByteArray)]) ?_ 2 _ rfl; (with_reducible repeat (first | refine kN_ ?_ _ | refine kD_ ?_ | refine kA_ ?_ _)); refine blk_put (cs := #[.int .i64 ((J24 l0 x10_1).f0), .int .i64 0, .int .i64 0, .int .i64 0, .int .i64 0, .string (⟨#[]⟩ : ByteArray)]) ?_ 1 _ rfl; (with_reducible repeat (first | refine kN_ ?_ _ | refine kD_ ?_ | refine kA_ ?_ _)); refine blk_put (cs := #[.int .i64 0, .int .i64 0, .int .i64 0, .int .i64 0, .int .i64 0, .string (⟨#[]⟩ : ByteArray)]) ?_ 0 _ rfl; (with_reducible repeat (first | refine kN_ ?_ _ | refine kD_ ?_ | refine kA_ ?_ _)); exact BK273.out))⟩; replace HB : As_ (Below w.heap.size w w10) := ⟨(by rw [hw]; exact (bs_ HB GE273))⟩; clear hw; have q11 : ((ji5) : Int) ≤ ((l0.length : Int) : Int) := oD_; obtain ⟨i011, hi011, _, hsz11, _⟩ := info_parts info24; have hroom11 : l0.length ≤ c0 := HC0.out; have hC11 : Kd.C k24 _ (some ad272) l0.length l0 := HR0.out; have q011 : (0 : Int) ≤ ((ji5) : Int) := oD_; have hcut11 := cut_from (P := Tryz.prog) 22 24 .i64 Tryz.underlying22 hi011 6 hsz11 (some ad272) l0.length c0 (ji5) q011 q11; have hr11 := Kd.C_drop (m := ((ji5) : Int).toNat) (c := c0) hC11 (by omega) hroom11; obtain ⟨A11, hA11⟩ : ∃ A1, A1 = (if c0 = ((ji5) : Int).toNat then (some ad272) else ((some ad272) : Option Addr).map (·.add (((ji5) : Int).toNat * 6))) := ⟨_, rfl⟩; obtain ⟨c11, hc11⟩ : ∃ c1, c1 = c0 - ((ji5) : Int).toNat := ⟨_, rfl⟩; have hy11 : y274.length = l0.length - ((ji5) : Int).toNat := (by rw [Ny274.out, List.length_drop] <;> omega); rw [show (l0).drop ((ji5) : Int).toNat = y274 from Ny274.out.symm] at hr11; replace hr11 : Kd.C k24 _ A11 y274.length y274 := (by rw [hA11]; exact hr11); rw [← hy11, ← hA11, ← hc11] at hcut11; have HR277 := aM_ hr11; have HC277 := aM_ (show y274.length ≤ c11 from by rw [hy11, hc11]; exact Nat.sub_le_sub_right hroom11 _); clear hr11 hC11 hroom11 hi011 hsz11 hc11; have KY11 := aM_ hy11; have KA11 := aM_ hA11; clear hy11 hA11; replace q11 := eq_true q11))
        go_loopg [2, 20] k1 (fun kq v2 v20 w' => ∃ (x2_2 : List (S100)) (x20_2 : Int), v20 = .int .i64 x20_2 ∧ As_ (dag_Edges.l1 kq l0 x2_2 x10_1 l0 (l0.length : Int) x10_1 y274 (y274.length : Int) x20_2 ((J24 l0 x10_1).f0) ((J24 l0 x10_1).f1) ((J24 l0 x10_1).f2) ((J24 l0 x10_1).f3) ((J24 l0 x10_1).f4) ((J24 l0 x10_1).f5) = some r) ∧ As_ (kq ≤ k1) ∧ As_ (Kd.R k100 100 w' w.heap.size (fun _ => True) v2 x2_2) ∧ As_ (w'.heap[gb273]? = some (.cells #[.int .i64 ((J24 l0 x10_1).f0), .int .i64 ((J24 l0 x10_1).f1), .int .i64 ((J24 l0 x10_1).f2), .int .i64 ((J24 l0 x10_1).f3), .int .i64 ((J24 l0 x10_1).f4), .string ((J24 l0 x10_1).f5)] 24 (0, 0))) ∧ As_ (Below w.heap.size w w'))
        case atStart => exact ⟨(x2_1), (0), eQ_, H, ⟨Nat.le_refl _⟩, ⟨rR_ HO_2⟩, ⟨rB_ BK273⟩, ⟨bs_ HB GE273⟩⟩
        case round =>
         clear H; obtain ⟨x2_2, x20_2, rfl, HA, HK2, HO_2, BK273, HB⟩ := hrel
         cases gk with
         | zero => exact absurd HA.out (by simp [dag_Edges.l1])
         | succ k2 =>
          have H := HA.out; clear HA; simp only [dag_Edges.l1] at H
          by_cases c12 : x20_2 < (y274.length : Int)
          ·rw [if_pos c12] at H; have c12b0 := dE_ c12; clear c12
           by_cases c13 : 0 ≤ x20_2
           ·rw [if_pos c13] at H; have c13b0 := dE_ c13; clear c13
            by_cases c14 : x20_2 < (y274.length : Int)
            ·rw [if_pos c14] at H; have c14b0 := dE_ c14; clear c14; obtain ⟨t280, A15, H⟩ := oB_ H
             by_cases c16 : t280 ≥ 0
             ·rw [if_pos c16] at H; have c16b0 := dE_ c16; clear c16
              by_cases c17 : x2_2.length < 5864062014805
              ·rw [if_pos c17] at H; have LMc17 := aM_ c17; clear c17; obtain ⟨y281, hy281⟩ : ∃ y_ : List (S100), y_ = (x2_2 ++ [(⟨x10_1, wrap64 ((wrap64 (x10_1 + 1)) + x20_2), t280⟩ : S100)]) := ⟨_, rfl⟩
               replace H : (dag_Edges.l1 k2 l0 y281 x10_1 l0 (l0.length : Int) x10_1 y274 (y274.length : Int) (wrap64 (x20_2 + 1)) ((J24 l0 x10_1).f0) ((J24 l0 x10_1).f1) ((J24 l0 x10_1).f2) ((J24 l0 x10_1).f3) ((J24 l0 x10_1).f4) ((J24 l0 x10_1).f5)) = some r := by first | (rw [hy281]; with_reducible exact H) | (have H2_ := (Option.bind_some _ _).symm.trans H; rw [hy281]; with_reducible exact H2_) | (have H2_ := (Option.bind_some _ _).symm.trans H; with_reducible exact H2_) | with_reducible exact H | (rw [hy281]; exact H) | exact H
               rw [hji5] at hy281; have Ny281 := aM_ hy281; clear hy281; replace H := aM_ H; have p278 : 0 ≤ (x20_2 : Int) := oD_; have q278 : x20_2 < (y274.length : Int) := oD_; obtain ⟨ad278, e278, hx278_0, hx278_1, hx278_2, hx278_3, hx278_4, hx278_5⟩ := at_T24 HR277.out x20_2 p278 q278
               cases e278
               replace hx278_0 := hC_ HB hx278_0; replace hx278_1 := hC_ HB hx278_1; replace hx278_2 := hC_ HB hx278_2; replace hx278_3 := hC_ HB hx278_3; replace hx278_4 := hC_ HB hx278_4; replace hx278_5 := hC_ HB hx278_5; replace p278 := eq_true p278; replace q278 := eq_true q278
               go_wp2_with (first | ((with_reducible refine gate_dst (N := 6) rfl ?_); refine bX_ (N := 6) (cs := #[.int .i64 0, .int .i64 0, .int .i64 0, .int .i64 0, .int .i64 0, .string (⟨#[]⟩ : ByteArray)]) (t := 24) ?_; intro gb279 hg w18 hbox hb; replace HO_2 := aM_ (Kd.R_below (rR_ HO_2) hb); replace BK279 := aM_ (hbox); replace GW279 := aM_ (gE_ hg (bs_ HB GE273)); replace GE279 := aM_ (gE_ hg (bs_ HB GE273)); replace HB := aM_ (bT_ (bs_ HB GE273) hb); replace NB273_279 := aM_ ((by rw [hg]; exact Nat.ne_of_lt (blk_lt (g := gb273) (o := .cells #[.int .i64 ((J24 l0 x10_1).f0), .int .i64 ((J24 l0 x10_1).f1), .int .i64 ((J24 l0 x10_1).f2), .int .i64 ((J24 l0 x10_1).f3), .int .i64 ((J24 l0 x10_1).f4), .string ((J24 l0 x10_1).f5)] 24 (0, 0)) (rB_ BK273)) : gb273 ≠ gb279)); replace NB279_273 := aM_ ((by rw [hg]; exact Nat.ne_of_gt (blk_lt (g := gb273) (o := .cells #[.int .i64 ((J24 l0 x10_1).f0), .int .i64 ((J24 l0 x10_1).f1), .int .i64 ((J24 l0 x10_1).f2), .int .i64 ((J24 l0 x10_1).f3), .int .i64 ((J24 l0 x10_1).f4), .string ((J24 l0 x10_1).f5)] 24 (0, 0)) (rB_ BK273)) : gb279 ≠ gb273)); replace BK273 := aM_ (kB_ (rB_ BK273) hb); clear hb hbox hg; have hnb19 := NB279_273.out; have hnc19 := NB273_279.out; obtain ⟨hcz20_0, hcz20_1, hcz20_2, hcz20_3, hcz20_4, hcz20_5⟩ := cl6_ BK279.out; obtain ⟨hfz20_0, hfz20_1, hfz20_2, hfz20_3, hfz20_4, hfz20_5⟩ := fz6_ BK279.out; obtain ⟨hcz21_0, hcz21_1, hcz21_2, hcz21_3, hcz21_4, hcz21_5⟩ := cl6_ BK273.out; obtain ⟨hfz21_0, hfz21_1, hfz21_2, hfz21_3, hfz21_4, hfz21_5⟩ := fz6_ BK273.out) | ((with_reducible refine gC_ (f := 84) rfl ?_); refine gL_ (some 27) Tryz.func84 #[.agg #[.int .i64 ((J24 l0 x10_1).f0), .int .i64 ((J24 l0 x10_1).f1), .int .i64 ((J24 l0 x10_1).f2), .int .i64 ((J24 l0 x10_1).f3), .int .i64 ((J24 l0 x10_1).f4), .string ((J24 l0 x10_1).f5)], .agg #[.int .i64 ((J24 y274 x20_2).f0), .int .i64 ((J24 y274 x20_2).f1), .int .i64 ((J24 y274 x20_2).f2), .int .i64 ((J24 y274 x20_2).f3), .int .i64 ((J24 y274 x20_2).f4), .string ((J24 y274 x20_2).f5)]] rfl ?_; (with_reducible refine (dag_dist.calls k2 ((J24 l0 x10_1).f0) ((J24 l0 x10_1).f1) ((J24 l0 x10_1).f2) ((J24 l0 x10_1).f3) ((J24 l0 x10_1).f4) ((J24 l0 x10_1).f5) ((J24 y274 x20_2).f0) ((J24 y274 x20_2).f1) ((J24 y274 x20_2).f2) ((J24 y274 x20_2).f3) ((J24 y274 x20_2).f4) ((J24 y274 x20_2).f5) t280 _ A15.out).mono ?_); rintro e w22 ⟨rfl, hb⟩; refine ⟨_, rfl, ?_⟩; replace HO_2 := aM_ (Kd.R_below (by (with_reducible repeat (first | apply Kd.R_alloc | apply Kd.R_drewN | apply Kd.R_drew)); exact (Kd.R_mono (Kd.R_far (p := ⟨gb279, 5, none⟩) (Kd.R_far (p := ⟨gb279, 4, none⟩) (Kd.R_far (p := ⟨gb279, 3, none⟩) (Kd.R_far (p := ⟨gb279, 2, none⟩) (Kd.R_far (p := ⟨gb279, 1, none⟩) (Kd.R_far (p := ⟨gb279, 0, none⟩) (Kd.R_types HO_2.out BK279.out (by decide)) (fun _ hk => hk.2) (.int .i64 ((J24 y274 x20_2).f0))) (fun _ hk => hk.2) (.int .i64 ((J24 y274 x20_2).f1))) (fun _ hk => hk.2) (.int .i64 ((J24 y274 x20_2).f2))) (fun _ hk => hk.2) (.int .i64 ((J24 y274 x20_2).f3))) (fun _ hk => hk.2) (.int .i64 ((J24 y274 x20_2).f4))) (fun _ hk => hk.2) (.string ((J24 y274 x20_2).f5))) (fun _ h_ => h_.1))) hb); replace BK273 := aM_ (kB_ (g := gb273) (o := .cells #[.int .i64 ((J24 l0 x10_1).f0), .int .i64 ((J24 l0 x10_1).f1), .int .i64 ((J24 l0 x10_1).f2), .int .i64 ((J24 l0 x10_1).f3), .int .i64 ((J24 l0 x10_1).f4), .string ((J24 l0 x10_1).f5)] 24 (0, 0)) (by (with_reducible repeat (first | refine kN_ ?_ _ | refine kD_ ?_ | refine kA_ ?_ _)); refine blk_far ?_ NB273_279.out _; (with_reducible repeat (first | refine kN_ ?_ _ | refine kD_ ?_ | refine kA_ ?_ _)); refine blk_far ?_ NB273_279.out _; (with_reducible repeat (first | refine kN_ ?_ _ | refine kD_ ?_ | refine kA_ ?_ _)); refine blk_far ?_ NB273_279.out _; (with_reducible repeat (first | refine kN_ ?_ _ | refine kD_ ?_ | refine kA_ ?_ _)); refine blk_far ?_ NB273_279.out _; (with_reducible repeat (first | refine kN_ ?_ _ | refine kD_ ?_ | refine kA_ ?_ _)); refine blk_far ?_ NB273_279.out _; (with_reducible repeat (first | refine kN_ ?_ _ | refine kD_ ?_ | refine kA_ ?_ _)); refine blk_far ?_ NB273_279.out _; (with_reducible repeat (first | refine kN_ ?_ _ | refine kD_ ?_ | refine kA_ ?_ _)); exact BK273.out) hb); replace BK279 := aM_ (kB_ (g := gb279) (o := .cells #[.int .i64 ((J24 y274 x20_2).f0), .int .i64 ((J24 y274 x20_2).f1), .int .i64 ((J24 y274 x20_2).f2), .int .i64 ((J24 y274 x20_2).f3), .int .i64 ((J24 y274 x20_2).f4), .string ((J24 y274 x20_2).f5)] 24 (0, 0)) (by (with_reducible repeat (first | refine kN_ ?_ _ | refine kD_ ?_ | refine kA_ ?_ _)); refine blk_put (cs := #[.int .i64 ((J24 y274 x20_2).f0), .int .i64 ((J24 y274 x20_2).f1), .int .i64 ((J24 y274 x20_2).f2), .int .i64 ((J24 y274 x20_2).f3), .int .i64 ((J24 y274 x20_2).f4), .string (⟨#[]⟩ : ByteArray)]) ?_ 5 _ rfl; (with_reducible repeat (first | refine kN_ ?_ _ | refine kD_ ?_ | refine kA_ ?_ _)); refine blk_put (cs := #[.int .i64 ((J24 y274 x20_2).f0), .int .i64 ((J24 y274 x20_2).f1), .int .i64 ((J24 y274 x20_2).f2), .int .i64 ((J24 y274 x20_2).f3), .int .i64 0, .string (⟨#[]⟩ : ByteArray)]) ?_ 4 _ rfl; (with_reducible repeat (first | refine kN_ ?_ _ | refine kD_ ?_ | refine kA_ ?_ _)); refine blk_put (cs := #[.int .i64 ((J24 y274 x20_2).f0), .int .i64 ((J24 y274 x20_2).f1), .int .i64 ((J24 y274 x20_2).f2), .int .i64 0, .int .i64 0, .string (⟨#[]⟩ : ByteArray)]) ?_ 3 _ rfl; (with_reducible repeat (first | refine kN_ ?_ _ | refine kD_ ?_ | refine kA_ ?_ _)); refine blk_put (cs := #[.int .i64 ((J24 y274 x20_2).f0), .int .i64 ((J24 y274 x20_2).f1), .int .i64 0, .int .i64 0, .int .i64 0, .string (⟨#[]⟩ : ByteArray)]) ?_ 2 _ rfl; (with_reducible repeat (first | refine kN_ ?_ _ | refine kD_ ?_ | refine kA_ ?_ _)); refine blk_put (cs := #[.int .i64 ((J24 y274 x20_2).f0), .int .i64 0, .int .i64 0, .int .i64 0, .int .i64 0, .string (⟨#[]⟩ : ByteArray)]) ?_ 1 _ rfl; (with_reducible repeat (first | refine kN_ ?_ _ | refine kD_ ?_ | refine kA_ ?_ _)); refine blk_put (cs := #[.int .i64 0, .int .i64 0, .int .i64 0, .int .i64 0, .int .i64 0, .string (⟨#[]⟩ : ByteArray)]) ?_ 0 _ rfl; (with_reducible repeat (first | refine kN_ ?_ _ | refine kD_ ?_ | refine kA_ ?_ _)); exact BK279.out) hb); replace HB := aM_ (bT_ (bt_ HB GE273 GE279) hb)) | ((with_reducible refine gate_builtin (b := .append) (xs := #[.tmp 30, .tmp 38]) rfl ?_); at_builtin; refine Kd.R_append k100 (w0 := w) w.heap.size rfl (.tmp 30) (.tmp 38) 88 100 (.agg #[(.int .i64 0), (.int .i64 0), (.int .i64 0)]) 24 rfl Tryz.underlying88 info100 rfl (by decide) (by omega) u2 x2_2 (⟨x10_1, wrap64 (ji5 + x20_2), t280⟩ : S100) [.int .i64 x10_1, .int .i64 (wrap64 (ji5 + x20_2)), .int .i64 t280] (fun _ => True) (fun _ => False) rfl rfl ?aP (fun _ hk => hk.elim) ?aF ?aO ?aB ?aS ?aL ?_; (case aP => exact k100_mkM _ _ _ (⟨x10_1, wrap64 (ji5 + x20_2), t280⟩ : S100)); (case aB => exact (bt_ HB GE273 GE279)); (case aF => exact (fun _ _ => trivial)); (case aO => exact (rR_ HO_2)); (case aS => exact (bY_ (bt_ HB GE273 GE279))); (case aL => have := LMc17.out; omega); intro v282 w23 ho hb hg hat; rw [← Ny281.out] at ho; replace BK273 := aM_ (blk_grown (g := gb273) (o := .cells #[.int .i64 ((J24 l0 x10_1).f0), .int .i64 ((J24 l0 x10_1).f1), .int .i64 ((J24 l0 x10_1).f2), .int .i64 ((J24 l0 x10_1).f3), .int .i64 ((J24 l0 x10_1).f4), .string ((J24 l0 x10_1).f5)] 24 (0, 0)) (rB_ BK273) hg (Kd.R_ne HO_2.out BK273.out (by decide))); replace BK279 := aM_ (blk_grown (g := gb279) (o := .cells #[.int .i64 ((J24 y274 x20_2).f0), .int .i64 ((J24 y274 x20_2).f1), .int .i64 ((J24 y274 x20_2).f2), .int .i64 ((J24 y274 x20_2).f3), .int .i64 ((J24 y274 x20_2).f4), .string ((J24 y274 x20_2).f5)] 24 (0, 0)) (rB_ BK279) hg (Kd.R_ne HO_2.out BK279.out (by decide))); replace HB := aM_ (hb); replace HO283 := aM_ (ho); clear HO_2; clear ho hb hg hat))
               go_roundg k2
               case measure => have := HK1.out; have := HK2.out; omega
               case rel => exact ⟨(y281), (wrap64 (x20_2 + 1)), eQ_, H, ⟨by have := HK1.out; have := HK2.out; omega⟩, ⟨rR_ HO283⟩, ⟨rB_ BK273⟩, ⟨bt_ HB GE273 GE279⟩⟩
              rw [if_neg c17] at H; exact absurd H (by simp)
             rw [if_neg c16] at H; have c16b0 := dF_ c16; clear c16; replace H := aM_ H; have p278 : 0 ≤ (x20_2 : Int) := oD_; have q278 : x20_2 < (y274.length : Int) := oD_; obtain ⟨ad278, e278, hx278_0, hx278_1, hx278_2, hx278_3, hx278_4, hx278_5⟩ := at_T24 HR277.out x20_2 p278 q278
             cases e278
             replace hx278_0 := hC_ HB hx278_0; replace hx278_1 := hC_ HB hx278_1; replace hx278_2 := hC_ HB hx278_2; replace hx278_3 := hC_ HB hx278_3; replace hx278_4 := hC_ HB hx278_4; replace hx278_5 := hC_ HB hx278_5; replace p278 := eq_true p278; replace q278 := eq_true q278
             go_wp2_with (first | ((with_reducible refine gate_dst (N := 6) rfl ?_); refine bX_ (N := 6) (cs := #[.int .i64 0, .int .i64 0, .int .i64 0, .int .i64 0, .int .i64 0, .string (⟨#[]⟩ : ByteArray)]) (t := 24) ?_; intro gb279 hg w24 hbox hb; replace HO_2 := aM_ (Kd.R_below (rR_ HO_2) hb); replace BK279 := aM_ (hbox); replace GW279 := aM_ (gE_ hg (bs_ HB GE273)); replace GE279 := aM_ (gE_ hg (bs_ HB GE273)); replace HB := aM_ (bT_ (bs_ HB GE273) hb); replace NB273_279 := aM_ ((by rw [hg]; exact Nat.ne_of_lt (blk_lt (g := gb273) (o := .cells #[.int .i64 ((J24 l0 x10_1).f0), .int .i64 ((J24 l0 x10_1).f1), .int .i64 ((J24 l0 x10_1).f2), .int .i64 ((J24 l0 x10_1).f3), .int .i64 ((J24 l0 x10_1).f4), .string ((J24 l0 x10_1).f5)] 24 (0, 0)) (rB_ BK273)) : gb273 ≠ gb279)); replace NB279_273 := aM_ ((by rw [hg]; exact Nat.ne_of_gt (blk_lt (g := gb273) (o := .cells #[.int .i64 ((J24 l0 x10_1).f0), .int .i64 ((J24 l0 x10_1).f1), .int .i64 ((J24 l0 x10_1).f2), .int .i64 ((J24 l0 x10_1).f3), .int .i64 ((J24 l0 x10_1).f4), .string ((J24 l0 x10_1).f5)] 24 (0, 0)) (rB_ BK273)) : gb279 ≠ gb273)); replace BK273 := aM_ (kB_ (rB_ BK273) hb); clear hb hbox hg; have hnb25 := NB279_273.out; have hnc25 := NB273_279.out; obtain ⟨hcz26_0, hcz26_1, hcz26_2, hcz26_3, hcz26_4, hcz26_5⟩ := cl6_ BK279.out; obtain ⟨hfz26_0, hfz26_1, hfz26_2, hfz26_3, hfz26_4, hfz26_5⟩ := fz6_ BK279.out; obtain ⟨hcz27_0, hcz27_1, hcz27_2, hcz27_3, hcz27_4, hcz27_5⟩ := cl6_ BK273.out; obtain ⟨hfz27_0, hfz27_1, hfz27_2, hfz27_3, hfz27_4, hfz27_5⟩ := fz6_ BK273.out) | ((with_reducible refine gC_ (f := 84) rfl ?_); refine gL_ (some 27) Tryz.func84 #[.agg #[.int .i64 ((J24 l0 x10_1).f0), .int .i64 ((J24 l0 x10_1).f1), .int .i64 ((J24 l0 x10_1).f2), .int .i64 ((J24 l0 x10_1).f3), .int .i64 ((J24 l0 x10_1).f4), .string ((J24 l0 x10_1).f5)], .agg #[.int .i64 ((J24 y274 x20_2).f0), .int .i64 ((J24 y274 x20_2).f1), .int .i64 ((J24 y274 x20_2).f2), .int .i64 ((J24 y274 x20_2).f3), .int .i64 ((J24 y274 x20_2).f4), .string ((J24 y274 x20_2).f5)]] rfl ?_; (with_reducible refine (dag_dist.calls k2 ((J24 l0 x10_1).f0) ((J24 l0 x10_1).f1) ((J24 l0 x10_1).f2) ((J24 l0 x10_1).f3) ((J24 l0 x10_1).f4) ((J24 l0 x10_1).f5) ((J24 y274 x20_2).f0) ((J24 y274 x20_2).f1) ((J24 y274 x20_2).f2) ((J24 y274 x20_2).f3) ((J24 y274 x20_2).f4) ((J24 y274 x20_2).f5) t280 _ A15.out).mono ?_); rintro e w28 ⟨rfl, hb⟩; refine ⟨_, rfl, ?_⟩; replace HO_2 := aM_ (Kd.R_below (by (with_reducible repeat (first | apply Kd.R_alloc | apply Kd.R_drewN | apply Kd.R_drew)); exact (Kd.R_mono (Kd.R_far (p := ⟨gb279, 5, none⟩) (Kd.R_far (p := ⟨gb279, 4, none⟩) (Kd.R_far (p := ⟨gb279, 3, none⟩) (Kd.R_far (p := ⟨gb279, 2, none⟩) (Kd.R_far (p := ⟨gb279, 1, none⟩) (Kd.R_far (p := ⟨gb279, 0, none⟩) (Kd.R_types HO_2.out BK279.out (by decide)) (fun _ hk => hk.2) (.int .i64 ((J24 y274 x20_2).f0))) (fun _ hk => hk.2) (.int .i64 ((J24 y274 x20_2).f1))) (fun _ hk => hk.2) (.int .i64 ((J24 y274 x20_2).f2))) (fun _ hk => hk.2) (.int .i64 ((J24 y274 x20_2).f3))) (fun _ hk => hk.2) (.int .i64 ((J24 y274 x20_2).f4))) (fun _ hk => hk.2) (.string ((J24 y274 x20_2).f5))) (fun _ h_ => h_.1))) hb); replace BK273 := aM_ (kB_ (g := gb273) (o := .cells #[.int .i64 ((J24 l0 x10_1).f0), .int .i64 ((J24 l0 x10_1).f1), .int .i64 ((J24 l0 x10_1).f2), .int .i64 ((J24 l0 x10_1).f3), .int .i64 ((J24 l0 x10_1).f4), .string ((J24 l0 x10_1).f5)] 24 (0, 0)) (by (with_reducible repeat (first | refine kN_ ?_ _ | refine kD_ ?_ | refine kA_ ?_ _)); refine blk_far ?_ NB273_279.out _; (with_reducible repeat (first | refine kN_ ?_ _ | refine kD_ ?_ | refine kA_ ?_ _)); refine blk_far ?_ NB273_279.out _; (with_reducible repeat (first | refine kN_ ?_ _ | refine kD_ ?_ | refine kA_ ?_ _)); refine blk_far ?_ NB273_279.out _; (with_reducible repeat (first | refine kN_ ?_ _ | refine kD_ ?_ | refine kA_ ?_ _)); refine blk_far ?_ NB273_279.out _; (with_reducible repeat (first | refine kN_ ?_ _ | refine kD_ ?_ | refine kA_ ?_ _)); refine blk_far ?_ NB273_279.out _; (with_reducible repeat (first | refine kN_ ?_ _ | refine kD_ ?_ | refine kA_ ?_ _)); refine blk_far ?_ NB273_279.out _; (with_reducible repeat (first | refine kN_ ?_ _ | refine kD_ ?_ | refine kA_ ?_ _)); exact BK273.out) hb); replace BK279 := aM_ (kB_ (g := gb279) (o := .cells #[.int .i64 ((J24 y274 x20_2).f0), .int .i64 ((J24 y274 x20_2).f1), .int .i64 ((J24 y274 x20_2).f2), .int .i64 ((J24 y274 x20_2).f3), .int .i64 ((J24 y274 x20_2).f4), .string ((J24 y274 x20_2).f5)] 24 (0, 0)) (by (with_reducible repeat (first | refine kN_ ?_ _ | refine kD_ ?_ | refine kA_ ?_ _)); refine blk_put (cs := #[.int .i64 ((J24 y274 x20_2).f0), .int .i64 ((J24 y274 x20_2).f1), .int .i64 ((J24 y274 x20_2).f2), .int .i64 ((J24 y274 x20_2).f3), .int .i64 ((J24 y274 x20_2).f4), .string (⟨#[]⟩ : ByteArray)]) ?_ 5 _ rfl; (with_reducible repeat (first | refine kN_ ?_ _ | refine kD_ ?_ | refine kA_ ?_ _)); refine blk_put (cs := #[.int .i64 ((J24 y274 x20_2).f0), .int .i64 ((J24 y274 x20_2).f1), .int .i64 ((J24 y274 x20_2).f2), .int .i64 ((J24 y274 x20_2).f3), .int .i64 0, .string (⟨#[]⟩ : ByteArray)]) ?_ 4 _ rfl; (with_reducible repeat (first | refine kN_ ?_ _ | refine kD_ ?_ | refine kA_ ?_ _)); refine blk_put (cs := #[.int .i64 ((J24 y274 x20_2).f0), .int .i64 ((J24 y274 x20_2).f1), .int .i64 ((J24 y274 x20_2).f2), .int .i64 0, .int .i64 0, .string (⟨#[]⟩ : ByteArray)]) ?_ 3 _ rfl; (with_reducible repeat (first | refine kN_ ?_ _ | refine kD_ ?_ | refine kA_ ?_ _)); refine blk_put (cs := #[.int .i64 ((J24 y274 x20_2).f0), .int .i64 ((J24 y274 x20_2).f1), .int .i64 0, .int .i64 0, .int .i64 0, .string (⟨#[]⟩ : ByteArray)]) ?_ 2 _ rfl; (with_reducible repeat (first | refine kN_ ?_ _ | refine kD_ ?_ | refine kA_ ?_ _)); refine blk_put (cs := #[.int .i64 ((J24 y274 x20_2).f0), .int .i64 0, .int .i64 0, .int .i64 0, .int .i64 0, .string (⟨#[]⟩ : ByteArray)]) ?_ 1 _ rfl; (with_reducible repeat (first | refine kN_ ?_ _ | refine kD_ ?_ | refine kA_ ?_ _)); refine blk_put (cs := #[.int .i64 0, .int .i64 0, .int .i64 0, .int .i64 0, .int .i64 0, .string (⟨#[]⟩ : ByteArray)]) ?_ 0 _ rfl; (with_reducible repeat (first | refine kN_ ?_ _ | refine kD_ ?_ | refine kA_ ?_ _)); exact BK279.out) hb); replace HB := aM_ (bT_ (bt_ HB GE273 GE279) hb)))
             go_roundg k2
             case measure => have := HK1.out; have := HK2.out; omega
             case rel => exact ⟨(x2_2), (wrap64 (x20_2 + 1)), eQ_, H, ⟨by have := HK1.out; have := HK2.out; omega⟩, ⟨rR_ HO_2⟩, ⟨rB_ BK273⟩, ⟨bt_ HB GE273 GE279⟩⟩
            rw [if_neg c14] at H; exact absurd H (by simp)
           rw [if_neg c13] at H; exact absurd H (by simp)
          rw [if_neg c12] at H; have c12b0 := dF_ c12; clear c12; replace H := aM_ H; go_wp2
          go_roundg k2
          case measure => have := HK1.out; have := HK2.out; omega
          case rel => exact ⟨(x2_2), (wrap64 (x10_1 + 1)), eQ_, H, ⟨by have := HK1.out; have := HK2.out; omega⟩, ⟨rR_ HO_2⟩, ⟨bs_ HB GE273⟩⟩
       rw [if_neg c7] at H; exact absurd H (by simp)
      rw [if_neg c6] at H; exact absurd H (by simp)
     rw [if_neg c4] at H; exact absurd H (by simp)
    rw [if_neg c3] at H; exact absurd H (by simp)
   rw [if_neg c2] at H; have c2b0 := dF_ c2; clear c2; obtain rfl := oI_ H; go_wp2; go_ret; exact ⟨_, eR_, rR_ HO_2, bl_ HB⟩
end Go.Proofs.YtibfkkjkahpobaaGreat.PDag
end
section
-- the texts that this claim needs, out of this session's and its print's (wip/shrink.py)
namespace Go.Den
open Go Go.RowKit
@[reducible] def nb (a b : Nat) : Bool := a == b
@[reducible] def nle (a b : Nat) : Bool := a - b == 0
@[reducible] def nlt (a b : Nat) : Bool := nle (a + 1) b
theorem nb_eq {a b : Nat} (h : nb a b = true) : a = b := by simpa [nb] using h
theorem nb_ne {a b : Nat} (h : nb a b = false) : a ≠ b := by simpa [nb] using h
theorem nb_refl (a : Nat) : nb a a = true := by simp [nb]
theorem nle_le {a b : Nat} (h : nle a b = true) : a ≤ b := by
  have : a - b = 0 := by simpa [nle] using h
  omega
inductive K where
  | int (k : IntKind)
  | bool
  | str
  | unit
  | pair (a b : K)
  | row (e : Nat) (a : K)
  deriving DecidableEq
@[reducible] def K.T : K → Type
  | .int _ => Int
  | .bool => Bool
  | .str => ByteArray
  | .unit => Unit
  | .pair a b => a.T × b.T
  | .row _ a => List a.T
def K.sz : K → Nat
  | .unit => 0
  | .pair a b => a.sz + b.sz
  | _ => 1
def K.zero : (k : K) → k.T
  | .int _ => (0 : Int)
  | .bool => false
  | .str => (⟨#[]⟩ : ByteArray)
  | .unit => ()
  | .pair a b => (a.zero, b.zero)
  | .row _ _ => []
inductive C where
  | int (k : IntKind) (n : Int)
  | bool (b : Bool)
  | str (s : ByteArray)
  | row (e : Nat) (k : K) (xs : List k.T)    -- a row that stays as it is
  | nil                             -- a nil row
  | own (id : Nat)                  -- the own row at id
  | sub (id lo hi : Nat)            -- a part of it
  | ptr (id off : Nat)              -- an address in the box at id
  | nilp
  | at_ (k : K) (x : k.T) (off : Nat)  -- an address behind which x stays
  | elt (id i off : Nat)            -- an address in element i of the own row at id
  | fn (f : Nat) (caps : List Nat)  -- a function, its captured boxes
  | dead
inductive S where
  | undef
  | one (c : C)
  | agg (l : List C)
  | tup (l : List (Bool × List C))
  | grd (b : Bool) (s : S)          -- s, where b holds
  | raw (v : Value)                 -- this value itself
inductive Blk where
  | box (t : Nat) (l : List C)
  | row (e : Nat) (k : K) (xs : List k.T)
  | frz (e : Nat) (k : K) (xs : List k.T)     -- a row that is no longer written
  | dead
structure Agree (U : Nat → Prop) (w w' : World) : Prop where
  os : w'.os = w.os
  tape : w'.tape = w.tape
  output : w'.output = w.output
  size : w.heap.size ≤ w'.heap.size
  block : ∀ b, b < w.heap.size → ¬ U b → w'.heap[b]? = w.heap[b]?
theorem Agree.refl (U : Nat → Prop) (w : World) : Agree U w w := ⟨rfl, rfl, rfl, Nat.le_refl _, fun _ _ _ => rfl⟩
theorem Agree.trans {U U1 : Nat → Prop} {w w1 w2 : World} (h : Agree U w w1) (h1 : Agree U1 w1 w2) (hu : ∀ b, b < w.heap.size → U1 b → U b) : Agree U w w2 :=
  ⟨h1.os.trans h.os, h1.tape.trans h.tape, h1.output.trans h.output, Nat.le_trans h.size h1.size, fun b hb hn =>
    (h1.block b (Nat.lt_of_lt_of_le hb h.size) (fun hx => hn (hu b hb hx))).trans (h.block b hb hn)⟩
theorem Agree.mono {U U1 : Nat → Prop} {w w1 : World} (h : Agree U w w1) (hu : ∀ b, b < w.heap.size → U b → U1 b) : Agree U1 w w1 :=
  ⟨h.os, h.tape, h.output, h.size, fun b hb hn => h.block b hb (fun hx => hn (hu b hb hx))⟩
theorem Agree.below {U : Nat → Prop} {w w1 : World} (h : Agree U w w1) (hu : ∀ b, b < w.heap.size → ¬ U b) : Below w.heap.size w w1 :=
  ⟨h.os, h.tape, h.output, h.size, fun b hb => h.block b hb (hu b hb)⟩
theorem Agree.of_below {U : Nat → Prop} {w w1 : World} (h : Below w.heap.size w w1) : Agree U w w1 :=
  ⟨h.os, h.tape, h.output, h.size, fun b hb _ => h.block b hb⟩
theorem Agree.cell {U : Nat → Prop} {w w1 : World} (h : Agree U w w1) {a : Addr} {v : Value} (hc : w.cell? a = some v) (hn : ¬ U a.block) : w1.cell? a = some v := by
  have := h.block a.block (World.block_lt_of_cell? w a hc) hn; rw [World.cell?_of_block this]; exact hc
structure Tr (U : Nat → Prop) (w : World) (U1 : Nat → Prop) (w1 : World) : Prop where
  agree : Agree U w w1
  less : ∀ b, b < w.heap.size → U1 b → U b
theorem Tr.refl (U : Nat → Prop) (w : World) : Tr U w U w := ⟨Agree.refl _ _, fun _ _ h => h⟩
theorem Tr.trans {U U1 U2 : Nat → Prop} {w w1 w2 : World} (h : Tr U w U1 w1) (h1 : Tr U1 w1 U2 w2) : Tr U w U2 w2 :=
  ⟨h.agree.trans h1.agree h.less, fun b hb hx => h.less b hb (h1.less b (Nat.lt_of_lt_of_le hb h.agree.size) hx)⟩
def RowAt {α : Type} (R : α → List Value → Prop) (size : Nat) (w : World) (A : Option Addr) (n : Nat) (ps : List α) : Prop :=
  ps.length = n ∧ n ≤ 9223372036854775807 ∧ (0 < n → ∃ ad, A = some ad ∧ ∀ j p, ps[j]? = some p → ∃ c, c.length = size ∧ R p c ∧ ∀ i u, c[i]? = some u → w.cell? (ad.add (j * size + i)) = some u)
theorem RowAt.imp {α : Type} {R R' : α → List Value → Prop} {size : Nat} {w : World} {A : Option Addr} {n : Nat} {ps : List α} (h : RowAt R size w A n ps) (hR : ∀ p c, R p c → R' p c) : RowAt R' size w A n ps :=
  ⟨h.1, h.2.1, fun hn => by
    obtain ⟨ad, e, hc⟩ := h.2.2 hn
    exact ⟨ad, e, fun j p hj => by
      obtain ⟨c, hs, hr, hcell⟩ := hc j p hj
      exact ⟨c, hs, hR _ _ hr, hcell⟩⟩⟩
def KR (w : World) : (k : K) → k.T → List Value → Prop
  | .int kk, n, cs => cs = [.int kk n]
  | .bool, b, cs => cs = [.bool b]
  | .str, s, cs => cs = [.string s]
  | .unit, _, cs => cs = []
  | .pair a b, x, cs => ∃ c0 c1, cs = c0 ++ c1 ∧ KR w a x.1 c0 ∧ KR w b x.2 c1
  | .row _ a, xs, cs => ∃ A c, cs = [.slice A xs.length c] ∧ xs.length ≤ c ∧ RowAt (KR w a) a.sz w A xs.length xs
theorem KR.len {w : World} : ∀ {k : K} {x : k.T} {cs : List Value}, KR w k x cs → cs.length = k.sz
  | .int _, _, _, h => by rw [h]; rfl
  | .bool, _, _, h => by rw [h]; rfl
  | .str, _, _, h => by rw [h]; rfl
  | .unit, _, _, h => by rw [h]; rfl
  | .pair a b, x, cs, h => by
    obtain ⟨c0, c1, rfl, h0, h1⟩ := h
    rw [List.length_append, KR.len h0, KR.len h1]; rfl
  | .row _ a, _, _, h => by
    obtain ⟨A, c, rfl, _⟩ := h; rfl
theorem KR.one {w : World} : ∀ {k : K} {x : k.T} {cs : List Value}, KR w k x cs → ∀ u ∈ cs, u.oneCell' = true
  | .int _, _, _, h, u, hu => by rw [h] at hu; rw [List.mem_singleton.1 hu]; rfl
  | .bool, _, _, h, u, hu => by rw [h] at hu; rw [List.mem_singleton.1 hu]; rfl
  | .str, _, _, h, u, hu => by rw [h] at hu; rw [List.mem_singleton.1 hu]; rfl
  | .unit, _, _, h, u, hu => by rw [h] at hu; cases hu
  | .pair a b, x, cs, h, u, hu => by
    obtain ⟨c0, c1, rfl, h0, h1⟩ := h; rcases List.mem_append.1 hu with hu | hu
    · exact KR.one h0 u hu
    · exact KR.one h1 u hu
  | .row _ a, _, _, h, u, hu => by
    obtain ⟨A, c, rfl, _⟩ := h; rw [List.mem_singleton.1 hu]; rfl
def KS (U : Nat → Prop) (w : World) (k : K) (x : k.T) (cs : List Value) : Prop := ∀ w', Agree U w w' → KR w' k x cs
theorem KS.now {U : Nat → Prop} {w : World} {k : K} {x : k.T} {cs : List Value} (h : KS U w k x cs) : KR w k x cs := h w (Agree.refl _ _)
theorem KS.tr {U U1 : Nat → Prop} {w w1 : World} {k : K} {x : k.T} {cs : List Value} (h : KS U w k x cs) (t : Tr U w U1 w1) : KS U1 w1 k x cs :=
  fun w2 h2 => h w2 (t.agree.trans h2 t.less)
theorem KS.pair {U : Nat → Prop} {w : World} {a b : K} {x : (K.pair a b).T} {cs : List Value} : KS U w (.pair a b) x cs ↔ ∃ c0 c1, cs = c0 ++ c1 ∧ KS U w a x.1 c0 ∧ KS U w b x.2 c1 := by
  constructor
  · intro h; obtain ⟨c0, c1, e, h0, h1⟩ := h.now; refine ⟨c0, c1, e, fun w' hw => ?_, fun w' hw => ?_⟩
    · obtain ⟨d0, d1, e', k0, k1⟩ := h w' hw; have hl : c0.length = d0.length := by rw [h0.len, k0.len]
      have := (List.append_inj (e.symm.trans e') hl).1; rw [this]; exact k0
    · obtain ⟨d0, d1, e', k0, k1⟩ := h w' hw; have hl : c0.length = d0.length := by rw [h0.len, k0.len]
      have := (List.append_inj (e.symm.trans e') hl).2; rw [this]; exact k1
  · rintro ⟨c0, c1, rfl, h0, h1⟩ w' hw; exact ⟨c0, c1, rfl, h0 w' hw, h1 w' hw⟩
def K.flat : (k : K) → k.T → List C
  | .int kk, n => [.int kk n]
  | .bool, b => [.bool b]
  | .str, s => [.str s]
  | .unit, _ => []
  | .pair a b, x => a.flat x.1 ++ b.flat x.2
  | .row e a, xs => [.row e a xs]
theorem K.flat_length : ∀ (k : K) (x : k.T), (k.flat x).length = k.sz
  | .int _, _ => rfl
  | .bool, _ => rfl
  | .str, _ => rfl
  | .unit, _ => rfl
  | .pair a b, x => by rw [K.flat, List.length_append, K.flat_length a, K.flat_length b]; rfl
  | .row _ _, _ => rfl
def castRow (a' a : K) (xs : List a'.T) : Option (List a.T) := if h : a' = a then some (h ▸ xs) else none
theorem castRow_self (a : K) (xs : List a.T) : castRow a a xs = some xs := by simp [castRow]
theorem castRow_some {a' a : K} {xs : List a'.T} {ys : List a.T} (h : castRow a' a xs = some ys) : ∃ e : a' = a, e ▸ xs = ys := by
  unfold castRow at h; split at h
  · rename_i e; exact ⟨e, Option.some.inj h⟩
  · cases h
def K.fit : (k : K) → List C → Option (k.T × List C)
  | .int kk, l => match l with
    | .int k' n :: r => if kk = k' then some (n, r) else none
    | _ => none
  | .bool, l => match l with
    | .bool b :: r => some (b, r)
    | _ => none
  | .str, l => match l with
    | .str s :: r => some (s, r)
    | _ => none
  | .unit, l => some ((), l)
  | .pair a b, l => (a.fit l).bind fun p => (b.fit p.2).bind fun q => some ((p.1, q.1), q.2)
  | .row e a, l => match l with
    | .row e' a' xs :: r => bif nb e' e then (castRow a' a xs).map fun ys => (ys, r) else none
    | .nil :: r => some ([], r)
    | _ => none
end Go.Den
end
