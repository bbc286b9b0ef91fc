-- the texts that this claim needs, out of this session's and its print's (wip/shrink.py)
import Derived.Test.YtibfkkjkahpobaaPDagx0L
import Derived.Test.YtibfkkjkahpobaaPDagx18L
namespace Go.Proofs.Ytibfkkjkahpobaa.PDag
open Go.RowKit Go.Proofs.YtibfkkjkahpobaaW.PrintWords Go.Proofs.YtibfkkjkahpobaaW.PrintLast Go.Proofs.YtibfkkjkahpobaaW.PrintMore
attribute [local go_sem] max2_int min2_int max_two min_two max_three min_three max_four min_four   -- for this text's walks alone
set_option linter.unusedVariables false
set_option linter.unusedSimpArgs false
mutual
def r13_Straight.l0 : Nat → List (S24) → Int → Option (Bool)
  | 0, _, _ => none
  | k + 1, x0, x3 => if x3 < (x0.length : Int) then (r13_Straight.j1 k x0 x3 (decide (x3 ≤ 200))) else (r13_Straight.j1 k x0 x3 false)
def r13_Straight.j1 : Nat → List (S24) → Int → Bool → Option (Bool)
  | 0, _, _, _ => none
  | k + 1, x0, x3, x11 => if x11 = true then (if 0 ≤ x3 then (if x3 < (x0.length : Int) then ((r3_Ins.f k ((q24 x0 x3).f0) ((q24 x0 x3).f1) ((q24 x0 x3).f2) ((q24 x0 x3).f3) ((q24 x0 x3).f4) ((q24 x0 x3).f5)).bind fun t370 => (if t370 = true then (if ((q24 x0 x3).f0) = 0 then (r13_Straight.j2 k x0 x3 true) else ((r3_Ends.f ((q24 x0 x3).f0)).bind fun t373 => (r13_Straight.j2 k x0 x3 t373))) else (r13_Straight.j2 k x0 x3 true))) else (none)) else (none)) else (some (decide ((x0.length : Int) ≤ 200)))
def r13_Straight.j2 : Nat → List (S24) → Int → Bool → Option (Bool)
  | 0, _, _, _ => none
  | k + 1, x0, x3, x35 => if x35 = true then (some false) else (r13_Straight.l0 k x0 (wrap64 (x3 + 1)))
end
def r13_Straight.f (k : Nat) (l0 : List (S24)) : Option (Bool) := r13_Straight.l0 k l0 0
set_option maxHeartbeats 8000000 in
set_option maxRecDepth 100000 in
theorem r13_Straight.calls (k : Nat) (A0 : Option Addr) (c0 : Nat) (l0 : List (S24)) (r : Bool) (w : World) (hr0 : Kd.C k24 w A0 l0.length l0) (hc0 : l0.length ≤ c0) (h : r13_Straight.f k l0 = some r) :
    Calls Try.prog 32 #[.slice A0 l0.length c0] w fun e w' => e = .returned (.bool r) ∧ Below w.heap.size w w' := by
 have hu24 := Try.underlying24
 have HR0 := As_.mk hr0
 have HC0 := As_.mk hc0
 clear hr0 hc0
 have HB := As_.mk (Below.refl w.heap.size w)
 have H : (r13_Straight.l0 k l0 0) = some r := h
 clear h
 have H' := As_.mk H
 clear H
 go_enter Try.func32, Try.ntmps32
 go_wp2
 go_loopg [3] k (fun kq v3 w' => ∃ (x3_1 : Int), v3 = .int .i64 x3_1 ∧ As_ (r13_Straight.l0 kq l0 x3_1 = some r) ∧ As_ (kq ≤ k) ∧ As_ (Below w.heap.size w w'))
 case atStart => exact ⟨(0), (by first | rfl | (simp; done) | (simp [*]; done) | (simp [wrap64]; done) | (congr 1; rw [Bool.eq_iff_iff]; simp; done)), H', ⟨Nat.le_refl _⟩, ⟨by repeat (first | (with_reducible first | exact HB.out | apply bA_ | apply bN_ | apply b1_) | exact HB.out)⟩⟩
 case round =>
  clear H'
  obtain ⟨x3_1, rfl, HA, HK1, HB⟩ := hrel
  cases gk with
  | zero => exact absurd HA.out (by simp [r13_Straight.l0])
  | succ k1 =>
   have H := HA.out
   clear HA
   simp only [r13_Straight.l0] at H
   have HC2 := As_.mk H
   clear H
   go_upto_region 2 with (fail)
   go_cut [11] (fun v11 wc => ∃ (kq : Nat) (x11_1 : Bool), v11 = .bool x11_1 ∧ As_ (r13_Straight.j1 kq l0 x3_1 x11_1 = some r) ∧ As_ (kq ≤ k1) ∧ As_ (Below w.heap.size w wc))
   case first =>
    have H := HC2.out
    clear HC2
    by_cases c3 : x3_1 < (l0.length : Int)
    ·rw [if_pos c3] at H
     have c3b0 : decide (x3_1 < (l0.length : Int)) = true := decide_eq_true c3
     clear c3
     (first | rw [c3b0] | (simp only [i64_w, i32_w]; rw [c3b0]) | skip)
     have H' := As_.mk H
     clear H
     go_wp2
     go_meet
     case rel => exact ⟨_, (decide (x3_1 ≤ 200)), (by first | rfl | (simp; done) | (simp [*]; done) | (simp [wrap64]; done) | (congr 1; rw [Bool.eq_iff_iff]; simp; done)), H', ⟨by have := HK1.out; first | omega | exact Nat.le_refl _⟩, ⟨by repeat (first | (with_reducible first | exact HB.out | apply bA_ | apply bN_ | apply b1_) | exact HB.out)⟩⟩
    rw [if_neg c3] at H
    have c3b0 : decide (x3_1 < (l0.length : Int)) = false := decide_eq_false c3
    clear c3
    (first | rw [c3b0] | (simp only [i64_w, i32_w]; rw [c3b0]) | skip)
    have H' := As_.mk H
    clear H
    go_wp2
    go_meet
    case rel => exact ⟨_, (false), (by first | rfl | (simp; done) | (simp [*]; done) | (simp [wrap64]; done) | (congr 1; rw [Bool.eq_iff_iff]; simp; done)), H', ⟨by have := HK1.out; first | omega | exact Nat.le_refl _⟩, ⟨by repeat (first | (with_reducible first | exact HB.out | apply bA_ | apply bN_ | apply b1_) | exact HB.out)⟩⟩
   case rest =>
    clear HC2
    obtain ⟨kq, x11_1, rfl, HA, HJ1, HB⟩ := hcut
    cases kq with
    | zero => exact absurd HA.out (by simp [r13_Straight.j1])
    | succ kj1 =>
     have H := HA.out
     clear HA
     simp only [r13_Straight.j1] at H
     by_cases c4 : x11_1 = true
     ·subst c4
      have H1 : (if 0 ≤ x3_1 then (if x3_1 < (l0.length : Int) then ((r3_Ins.f kj1 ((q24 l0 x3_1).f0) ((q24 l0 x3_1).f1) ((q24 l0 x3_1).f2) ((q24 l0 x3_1).f3) ((q24 l0 x3_1).f4) ((q24 l0 x3_1).f5)).bind fun t370 => (if t370 = true then (if ((q24 l0 x3_1).f0) = 0 then (r13_Straight.j2 kj1 l0 x3_1 true) else ((r3_Ends.f ((q24 l0 x3_1).f0)).bind fun t373 => (r13_Straight.j2 kj1 l0 x3_1 t373))) else (r13_Straight.j2 kj1 l0 x3_1 true))) else (none)) else (none)) = some r := by rw [if_pos rfl] at H; exact H
      clear H
      have H := H1
      clear H1
      have HC5 := As_.mk H
      clear H
      go_upto_region 4 with (fail)
      go_cut [35] (fun v35 wc => ∃ (kq : Nat) (x35_4 : Bool), v35 = .bool x35_4 ∧ As_ (r13_Straight.j2 kq l0 x3_1 x35_4 = some r) ∧ As_ (kq ≤ kj1) ∧ As_ (Below w.heap.size w wc))
      case first =>
       have H := HC5.out
       clear HC5
       by_cases c6 : 0 ≤ x3_1
       ·rw [if_pos c6] at H
        have c6b0 : decide (0 ≤ x3_1) = true := decide_eq_true c6
        clear c6
        (first | rw [c6b0] | (simp only [i64_w, i32_w]; rw [c6b0]) | skip)
        by_cases c7 : x3_1 < (l0.length : Int)
        ·rw [if_pos c7] at H
         have c7b0 : decide (x3_1 < (l0.length : Int)) = true := decide_eq_true c7
         clear c7
         replace H := Option.bind_eq_some_iff.mp H
         obtain ⟨t370, A80, H⟩ := H
         replace H : (if t370 = true then (if ((q24 l0 x3_1).f0) = 0 then (r13_Straight.j2 kj1 l0 x3_1 true) else ((r3_Ends.f ((q24 l0 x3_1).f0)).bind fun t373 => (r13_Straight.j2 kj1 l0 x3_1 t373))) else (r13_Straight.j2 kj1 l0 x3_1 true)) = some r := H
         have A8 := As_.mk A80
         clear A80
         by_cases c9 : t370 = true
         ·subst c9
          have H1 : (if ((q24 l0 x3_1).f0) = 0 then (r13_Straight.j2 kj1 l0 x3_1 true) else ((r3_Ends.f ((q24 l0 x3_1).f0)).bind fun t373 => (r13_Straight.j2 kj1 l0 x3_1 t373))) = some r := by rw [if_pos rfl] at H; exact H
          clear H
          have H := H1
          clear H1
          by_cases c10 : ((q24 l0 x3_1).f0) = 0
          ·rw [if_pos c10] at H
           have c10b0 : (((q24 l0 x3_1).f0) == 0) = true := beq_iff_eq.mpr c10
           have c10b1 : (((q24 l0 x3_1).f0) != 0) = false := bne_eq_false_iff_eq.mpr c10
           clear c10
           have H' := As_.mk H
           clear H
           have p369 : 0 ≤ (x3_1 : Int) := of_decide_eq_true (by assumption)
           have q369 : x3_1 < (l0.length : Int) := of_decide_eq_true (by assumption)
           obtain ⟨ad369, e369, hx369_0, hx369_1, hx369_2, hx369_3, hx369_4, hx369_5⟩ := at_T24 HR0.out x3_1 p369 q369
           cases e369
           replace hx369_0 := (HB.out.cell (World.block_lt_of_cell? w _ hx369_0)).trans hx369_0
           replace hx369_1 := (HB.out.cell (World.block_lt_of_cell? w _ hx369_1)).trans hx369_1
           replace hx369_2 := (HB.out.cell (World.block_lt_of_cell? w _ hx369_2)).trans hx369_2
           replace hx369_3 := (HB.out.cell (World.block_lt_of_cell? w _ hx369_3)).trans hx369_3
           replace hx369_4 := (HB.out.cell (World.block_lt_of_cell? w _ hx369_4)).trans hx369_4
           replace hx369_5 := (HB.out.cell (World.block_lt_of_cell? w _ hx369_5)).trans hx369_5
           replace p369 := eq_true p369
           replace q369 := eq_true q369
           go_wp2_with (first | ((with_reducible refine gC_ (f := 39) rfl ?_); refine goesL_ (some 18) rfl rfl Try.func39 (by kernel_rfl) rfl #[.agg #[.int .i64 ((q24 l0 x3_1).f0), .int .i64 ((q24 l0 x3_1).f1), .int .i64 ((q24 l0 x3_1).f2), .int .i64 ((q24 l0 x3_1).f3), .int .i64 ((q24 l0 x3_1).f4), .string ((q24 l0 x3_1).f5)]] rfl (by (try simp only [List.map_toArray, List.map_cons, List.map_nil]); first | done | rfl) ?_; (with_reducible refine (r3_Ins.calls kj1 ((q24 l0 x3_1).f0) ((q24 l0 x3_1).f1) ((q24 l0 x3_1).f2) ((q24 l0 x3_1).f3) ((q24 l0 x3_1).f4) ((q24 l0 x3_1).f5) true _ A8.out).mono ?_); rintro e w11 ⟨rfl, hb⟩; refine ⟨_, rfl, ?_⟩; have n0_ := As_.mk (bT_ (by repeat (first | (with_reducible first | exact HB.out | apply bA_ | apply bN_ | apply b1_) | exact HB.out)) hb); clear HB; have HB := n0_; clear n0_; have p371 : 0 ≤ (x3_1 : Int) := of_decide_eq_true (by assumption); have q371 : x3_1 < (l0.length : Int) := of_decide_eq_true (by assumption); obtain ⟨ad371, e371, hx371_0, hx371_1, hx371_2, hx371_3, hx371_4, hx371_5⟩ := at_T24 HR0.out x3_1 p371 q371; obtain rfl : ad369 = ad371 := (by injection e371); replace hx371_0 := (HB.out.cell (World.block_lt_of_cell? w _ hx371_0)).trans hx371_0; replace hx371_1 := (HB.out.cell (World.block_lt_of_cell? w _ hx371_1)).trans hx371_1; replace hx371_2 := (HB.out.cell (World.block_lt_of_cell? w _ hx371_2)).trans hx371_2; replace hx371_3 := (HB.out.cell (World.block_lt_of_cell? w _ hx371_3)).trans hx371_3; replace hx371_4 := (HB.out.cell (World.block_lt_of_cell? w _ hx371_4)).trans hx371_4; replace hx371_5 := (HB.out.cell (World.block_lt_of_cell? w _ hx371_5)).trans hx371_5; replace p371 := eq_true p371; replace q371 := eq_true q371))
           go_meet
           case rel => exact ⟨_, (true), (by first | rfl | (simp; done) | (simp [*]; done) | (simp [wrap64]; done) | (congr 1; rw [Bool.eq_iff_iff]; simp; done)), H', ⟨by have := HK1.out; have := HJ1.out; first | omega | exact Nat.le_refl _⟩, ⟨by repeat (first | (with_reducible first | exact HB.out | apply bA_ | apply bN_ | apply b1_) | exact HB.out)⟩⟩
          rw [if_neg c10] at H
          have c10b0 : (((q24 l0 x3_1).f0) == 0) = false := beq_eq_false_iff_ne.mpr c10
          have c10b1 : (((q24 l0 x3_1).f0) != 0) = true := bne_iff_ne.mpr c10
          replace H := Option.bind_eq_some_iff.mp H
          obtain ⟨t373, A120, H⟩ := H
          replace H : (r13_Straight.j2 kj1 l0 x3_1 t373) = some r := H
          have A12 := As_.mk A120
          clear A120
          have H' := As_.mk H
          clear H
          have p369 : 0 ≤ (x3_1 : Int) := of_decide_eq_true (by assumption)
          have q369 : x3_1 < (l0.length : Int) := of_decide_eq_true (by assumption)
          obtain ⟨ad369, e369, hx369_0, hx369_1, hx369_2, hx369_3, hx369_4, hx369_5⟩ := at_T24 HR0.out x3_1 p369 q369
          cases e369
          replace hx369_0 := (HB.out.cell (World.block_lt_of_cell? w _ hx369_0)).trans hx369_0
          replace hx369_1 := (HB.out.cell (World.block_lt_of_cell? w _ hx369_1)).trans hx369_1
          replace hx369_2 := (HB.out.cell (World.block_lt_of_cell? w _ hx369_2)).trans hx369_2
          replace hx369_3 := (HB.out.cell (World.block_lt_of_cell? w _ hx369_3)).trans hx369_3
          replace hx369_4 := (HB.out.cell (World.block_lt_of_cell? w _ hx369_4)).trans hx369_4
          replace hx369_5 := (HB.out.cell (World.block_lt_of_cell? w _ hx369_5)).trans hx369_5
          replace p369 := eq_true p369
          replace q369 := eq_true q369
          go_wp2_with (first | ((with_reducible refine gC_ (f := 39) rfl ?_); refine goesL_ (some 18) rfl rfl Try.func39 (by kernel_rfl) rfl #[.agg #[.int .i64 ((q24 l0 x3_1).f0), .int .i64 ((q24 l0 x3_1).f1), .int .i64 ((q24 l0 x3_1).f2), .int .i64 ((q24 l0 x3_1).f3), .int .i64 ((q24 l0 x3_1).f4), .string ((q24 l0 x3_1).f5)]] rfl (by (try simp only [List.map_toArray, List.map_cons, List.map_nil]); first | done | rfl) ?_; (with_reducible refine (r3_Ins.calls kj1 ((q24 l0 x3_1).f0) ((q24 l0 x3_1).f1) ((q24 l0 x3_1).f2) ((q24 l0 x3_1).f3) ((q24 l0 x3_1).f4) ((q24 l0 x3_1).f5) true _ A8.out).mono ?_); rintro e w13 ⟨rfl, hb⟩; refine ⟨_, rfl, ?_⟩; have n0_ := As_.mk (bT_ (by repeat (first | (with_reducible first | exact HB.out | apply bA_ | apply bN_ | apply b1_) | exact HB.out)) hb); clear HB; have HB := n0_; clear n0_; have p371 : 0 ≤ (x3_1 : Int) := of_decide_eq_true (by assumption); have q371 : x3_1 < (l0.length : Int) := of_decide_eq_true (by assumption); obtain ⟨ad371, e371, hx371_0, hx371_1, hx371_2, hx371_3, hx371_4, hx371_5⟩ := at_T24 HR0.out x3_1 p371 q371; obtain rfl : ad369 = ad371 := (by injection e371); replace hx371_0 := (HB.out.cell (World.block_lt_of_cell? w _ hx371_0)).trans hx371_0; replace hx371_1 := (HB.out.cell (World.block_lt_of_cell? w _ hx371_1)).trans hx371_1; replace hx371_2 := (HB.out.cell (World.block_lt_of_cell? w _ hx371_2)).trans hx371_2; replace hx371_3 := (HB.out.cell (World.block_lt_of_cell? w _ hx371_3)).trans hx371_3; replace hx371_4 := (HB.out.cell (World.block_lt_of_cell? w _ hx371_4)).trans hx371_4; replace hx371_5 := (HB.out.cell (World.block_lt_of_cell? w _ hx371_5)).trans hx371_5; replace p371 := eq_true p371; replace q371 := eq_true q371; have p372 : 0 ≤ (x3_1 : Int) := of_decide_eq_true (by assumption); have q372 : x3_1 < (l0.length : Int) := of_decide_eq_true (by assumption); obtain ⟨ad372, e372, hx372_0, hx372_1, hx372_2, hx372_3, hx372_4, hx372_5⟩ := at_T24 HR0.out x3_1 p372 q372; obtain rfl : ad369 = ad372 := (by injection e372); replace hx372_0 := (HB.out.cell (World.block_lt_of_cell? w _ hx372_0)).trans hx372_0; replace hx372_1 := (HB.out.cell (World.block_lt_of_cell? w _ hx372_1)).trans hx372_1; replace hx372_2 := (HB.out.cell (World.block_lt_of_cell? w _ hx372_2)).trans hx372_2; replace hx372_3 := (HB.out.cell (World.block_lt_of_cell? w _ hx372_3)).trans hx372_3; replace hx372_4 := (HB.out.cell (World.block_lt_of_cell? w _ hx372_4)).trans hx372_4; replace hx372_5 := (HB.out.cell (World.block_lt_of_cell? w _ hx372_5)).trans hx372_5; replace p372 := eq_true p372; replace q372 := eq_true q372) | (go_at_call 40; (with_reducible refine (r3_Ends.calls ((q24 l0 x3_1).f0) t373 _ A12.out).mono ?_); rintro e w' ⟨rfl, ⟨nd, rfl⟩⟩))
          go_meet
          case rel => exact ⟨_, (t373), (by first | rfl | (simp; done) | (simp [*]; done) | (simp [wrap64]; done) | (congr 1; rw [Bool.eq_iff_iff]; simp; done)), H', ⟨by have := HK1.out; have := HJ1.out; first | omega | exact Nat.le_refl _⟩, ⟨by repeat (first | (with_reducible first | exact HB.out | apply bA_ | apply bN_ | apply b1_) | exact HB.out)⟩⟩
         replace c9 := Bool.eq_false_iff.mpr c9
         subst c9
         have H1 : (r13_Straight.j2 kj1 l0 x3_1 true) = some r := by rw [if_neg (show ¬ (false = true) by decide)] at H; exact H
         clear H
         have H := H1
         clear H1
         have H' := As_.mk H
         clear H
         have p369 : 0 ≤ (x3_1 : Int) := of_decide_eq_true (by assumption)
         have q369 : x3_1 < (l0.length : Int) := of_decide_eq_true (by assumption)
         obtain ⟨ad369, e369, hx369_0, hx369_1, hx369_2, hx369_3, hx369_4, hx369_5⟩ := at_T24 HR0.out x3_1 p369 q369
         cases e369
         replace hx369_0 := (HB.out.cell (World.block_lt_of_cell? w _ hx369_0)).trans hx369_0
         replace hx369_1 := (HB.out.cell (World.block_lt_of_cell? w _ hx369_1)).trans hx369_1
         replace hx369_2 := (HB.out.cell (World.block_lt_of_cell? w _ hx369_2)).trans hx369_2
         replace hx369_3 := (HB.out.cell (World.block_lt_of_cell? w _ hx369_3)).trans hx369_3
         replace hx369_4 := (HB.out.cell (World.block_lt_of_cell? w _ hx369_4)).trans hx369_4
         replace hx369_5 := (HB.out.cell (World.block_lt_of_cell? w _ hx369_5)).trans hx369_5
         replace p369 := eq_true p369
         replace q369 := eq_true q369
         go_wp2_with (first | ((with_reducible refine gC_ (f := 39) rfl ?_); refine goesL_ (some 18) rfl rfl Try.func39 (by kernel_rfl) rfl #[.agg #[.int .i64 ((q24 l0 x3_1).f0), .int .i64 ((q24 l0 x3_1).f1), .int .i64 ((q24 l0 x3_1).f2), .int .i64 ((q24 l0 x3_1).f3), .int .i64 ((q24 l0 x3_1).f4), .string ((q24 l0 x3_1).f5)]] rfl (by (try simp only [List.map_toArray, List.map_cons, List.map_nil]); first | done | rfl) ?_; (with_reducible refine (r3_Ins.calls kj1 ((q24 l0 x3_1).f0) ((q24 l0 x3_1).f1) ((q24 l0 x3_1).f2) ((q24 l0 x3_1).f3) ((q24 l0 x3_1).f4) ((q24 l0 x3_1).f5) false _ A8.out).mono ?_); rintro e w14 ⟨rfl, hb⟩; refine ⟨_, rfl, ?_⟩; have n0_ := As_.mk (bT_ (by repeat (first | (with_reducible first | exact HB.out | apply bA_ | apply bN_ | apply b1_) | exact HB.out)) hb); clear HB; have HB := n0_; clear n0_))
         go_meet
         case rel => exact ⟨_, (true), (by first | rfl | (simp; done) | (simp [*]; done) | (simp [wrap64]; done) | (congr 1; rw [Bool.eq_iff_iff]; simp; done)), H', ⟨by have := HK1.out; have := HJ1.out; first | omega | exact Nat.le_refl _⟩, ⟨by repeat (first | (with_reducible first | exact HB.out | apply bA_ | apply bN_ | apply b1_) | exact HB.out)⟩⟩
        rw [if_neg c7] at H
        exact absurd H (by simp)
       rw [if_neg c6] at H
       exact absurd H (by simp)
      case rest =>
       clear HC5
       obtain ⟨kq, x35_4, rfl, HA, HJ4, HB⟩ := hcut
       cases kq with
       | zero => exact absurd HA.out (by simp [r13_Straight.j2])
       | succ kj4 =>
        have H := HA.out
        clear HA
        simp only [r13_Straight.j2] at H
        by_cases c15 : x35_4 = true
        ·subst c15
         have H1 : (some false) = some r := by rw [if_pos rfl] at H; exact H
         clear H
         have H := H1
         clear H1
         obtain rfl := Option.some.inj H
         go_wp2
         go_ret
         exact ⟨by first | rfl | (simp [eN_, eS_] <;> rfl) | (simp [*, eN_, eS_] <;> rfl), by repeat (first | (with_reducible first | exact HB.out | apply bA_ | apply bN_ | apply b1_) | exact HB.out)⟩
        replace c15 := Bool.eq_false_iff.mpr c15
        subst c15
        have H1 : (r13_Straight.l0 kj4 l0 (wrap64 (x3_1 + 1))) = some r := by rw [if_neg (show ¬ (false = true) by decide)] at H; exact H
        clear H
        have H := H1
        clear H1
        have H' := As_.mk H
        clear H
        go_wp2
        go_roundg kj4
        case measure => have := HK1.out; have := HJ1.out; have := HJ4.out; omega
        case rel => exact ⟨(wrap64 (x3_1 + 1)), (by first | rfl | (simp; done) | (simp [*]; done) | (simp [wrap64]; done) | (congr 1; rw [Bool.eq_iff_iff]; simp; done)), H', ⟨by have := HK1.out; have := HJ1.out; have := HJ4.out; omega⟩, ⟨by repeat (first | (with_reducible first | exact HB.out | apply bA_ | apply bN_ | apply b1_) | exact HB.out)⟩⟩
     replace c4 := Bool.eq_false_iff.mpr c4
     subst c4
     have H1 : (some (decide ((l0.length : Int) ≤ 200))) = some r := by rw [if_neg (show ¬ (false = true) by decide)] at H; exact H
     clear H
     have H := H1
     clear H1
     obtain rfl := Option.some.inj H
     go_wp2
     go_ret
     exact ⟨by first | rfl | (simp [eN_, eS_] <;> rfl) | (simp [*, eN_, eS_] <;> rfl), by repeat (first | (with_reducible first | exact HB.out | apply bA_ | apply bN_ | apply b1_) | exact HB.out)⟩
mutual
def w14_rows.l0 : Nat → List (S24) → Int → List (S24) → Int → Int → Int → Int → Int → ByteArray → List Int → Option ((List (List (S24))))
  | 0, _, _, _, _, _, _, _, _, _, _ => none
  | k + 1, x3, x4, x375a, x375b, x375c, x375d, x375e, x375f, x375g, x375h => if x4 < (x375a.length : Int) then (w14_rows.j1 k x3 x4 (decide ((x3.length : Int) < 40)) x375a x375b x375c x375d x375e x375f x375g x375h) else (w14_rows.j1 k x3 x4 false x375a x375b x375c x375d x375e x375f x375g x375h)
def w14_rows.j1 : Nat → List (S24) → Int → Bool → List (S24) → Int → Int → Int → Int → Int → ByteArray → List Int → Option ((List (List (S24))))
  | 0, _, _, _, _, _, _, _, _, _, _, _ => none
  | k + 1, x3, x4, x14, x375a, x375b, x375c, x375d, x375e, x375f, x375g, x375h => if x14 = true then (if 0 ≤ x4 then (if x4 ≤ (wrap64 (x4 + 1)) then (if (wrap64 (x4 + 1)) ≤ (x375a.length : Int) then ((r13_Straight.f k ((x375a.take ((wrap64 (x4 + 1)) : Int).toNat).drop (x4 : Int).toNat)).bind fun t388 => (if t388 = true then (if x4 < (x375a.length : Int) then (if x3.length < 2513169434916 then (w14_rows.l0 k (x3 ++ [(⟨(q24 x375a x4).f0, (q24 x375a x4).f1, (q24 x375a x4).f2, (q24 x375a x4).f3, (q24 x375a x4).f4, (q24 x375a x4).f5⟩ : S24)]) (wrap64 (x4 + 1)) x375a x375b x375c x375d x375e x375f x375g x375h) else (none)) else (none)) else (w14_rows.l0 k x3 (wrap64 (x4 + 1)) x375a x375b x375c x375d x375e x375f x375g x375h))) else (none)) else (none)) else (none)) else (if 0 ≤ (wrap64 ((x3.length : Int) / 2)) then (if (wrap64 ((x3.length : Int) / 2)) ≤ (x3.length : Int) then (some (([x375a, x3, (x3.take ((wrap64 ((x3.length : Int) / 2)) : Int).toNat), []] : List (List (S24))))) else (none)) else (none))
end
def w14_rows.f (k : Nat) (l0_0 : List (S24)) (a0_1 : Int) (a0_2 : Int) (a0_3 : Int) (a0_4 : Int) (a0_5 : Int) (a0_6 : ByteArray) (l0_7 : List Int) : Option ((List (List (S24)))) := w14_rows.l0 k ([] : List (S24)) 0 l0_0 a0_1 a0_2 a0_3 a0_4 a0_5 a0_6 l0_7
def w14_rows.T7 : Bool × List (List Nat × List Nat) := (true, [([], []), ([0], [0]), ([], []), ([], []), ([], []), ([4], [4]), ([5], [5]), ([3, 6], [3, 6]), ([1, 2, 7], [1, 2, 7]), ([8, 0, 1, 2, 3, 4, 5, 6, 7, 8], [8])])
def w14_rows.B7 : List Nat := [0, 1, 0, 0, 0, 16, 48, 120, 255, 511]
theorem w14_rows.tab7 : rtab .any (opsOf Try.f29 7) = w14_rows.T7 := by kernel_rfl
theorem w14_rows.bits7 : waitsOk w14_rows.T7.2 w14_rows.B7 = true := by kernel_rfl
set_option maxHeartbeats 8000000 in
set_option maxRecDepth 100000 in
theorem w14_rows.calls (k : Nat) (P0_0_ : Nat → Prop) (A0_0 : Option Addr) (c0_0 : Nat) (l0_0 : List (S24)) (a0_1 : Int) (a0_2 : Int) (a0_3 : Int) (a0_4 : Int) (a0_5 : Int) (a0_6 : ByteArray) (A0_7 : Option Addr) (c0_7 : Nat) (l0_7 : List Int) (r : List (List (S24))) (w : World) (hs0_0 : Kd.V k24 24 w w.heap.size (fun k_ => P0_0_ k_) (.slice A0_0 l0_0.length c0_0) l0_0) (hr0_7 : Kd.C (Kd.int .i64) w A0_7 l0_7.length l0_7) (hc0_7 : l0_7.length ≤ c0_7) (h : w14_rows.f k l0_0 a0_1 a0_2 a0_3 a0_4 a0_5 a0_6 l0_7 = some r) :
    Calls Try.prog 29 #[.agg #[.slice A0_0 l0_0.length c0_0, .int .i64 a0_1, .int .i64 a0_2, .int .i64 a0_3, .int .i64 a0_4, .int .i64 a0_5, .string a0_6, .slice A0_7 l0_7.length c0_7]] w fun e w' => ∃ v0_ : Value, e = .returned (v0_) ∧ Kd.N (Kd.slice 24 k24) 22 w' w.heap.size (fun k_ => (P0_0_ k_ ∨ w.heap.size ≤ k_)) v0_ r ∧ Below w.heap.size w w' := by
 have hu27 := Try.underlying27
 have hu24 := Try.underlying24
 have HO0_0 := As_.mk (show Kd.V k24 24 w w.heap.size (fun k_ => (P0_0_ k_ ∨ w.heap.size ≤ k_)) (.slice A0_0 l0_0.length c0_0) l0_0 from Kd.V_mono hs0_0 (fun k_ hk => .inl hk))
 have HR0_7 := As_.mk hr0_7
 have HC0_7 := As_.mk hc0_7
 clear hr0_7 hc0_7
 have HB := As_.mk (Below.refl w.heap.size w)
 have H : (w14_rows.l0 k ([] : List (S24)) 0 l0_0 a0_1 a0_2 a0_3 a0_4 a0_5 a0_6 l0_7) = some r := h
 clear h
 have H' := As_.mk H
 clear H
 go_enter Try.func29, Try.ntmps29
 go_wp2_with (first | ((with_reducible refine gate_dst (N := 1) rfl ?_); refine box_event ?hg (N := 1) ?hd (cs := #[.slice A0_0 l0_0.length c0_0, .int .i64 a0_1, .int .i64 a0_2, .int .i64 a0_3, .int .i64 a0_4, .int .i64 a0_5, .string a0_6, .slice A0_7 l0_7.length c0_7]) (t := 27) ?hr ?_; (case hd => rfl); (case hg => rfl); (case hr => first | (go_simp; done) | (go_simp; rfl)); intro gb374 hg w2 hbox hb; have n0_ := As_.mk (Kd.V_below (Kd.V_elderB (by (with_reducible repeat (first | apply Kd.V_alloc | apply Kd.V_drewN | apply Kd.V_drew)); exact HO0_0.out) gb374 (Nat.le_of_eq hg.symm)) hb); have n1_ := As_.mk (bT_ (by repeat (first | (with_reducible first | exact HB.out | apply bA_ | apply bN_ | apply b1_) | exact HB.out)) hb); have n2_ := As_.mk (hbox); have n3_ := As_.mk ((by rw [hg]; exact (bY_ (by repeat (first | (with_reducible first | exact HB.out | apply bA_ | apply bN_ | apply b1_) | exact HB.out))) : w.heap.size ≤ gb374)); have n4_ := As_.mk ((by rw [hg]; exact (bY_ (by repeat (first | (with_reducible first | exact HB.out | apply bA_ | apply bN_ | apply b1_) | exact HB.out))) : w.heap.size ≤ gb374)); clear HO0_0; clear HB; have HO0_0 := n0_; have HB := n1_; have BK374 := n2_; have GW374 := n3_; have GE374 := n4_; clear n0_ n1_ n2_ n3_ n4_; clear hb hbox hg))
 go_loopg [3, 4] k (fun kq v3 v4 w' => ∃ (x3_1 : List (S24)) (x4_1 : Int), v4 = .int .i64 x4_1 ∧ As_ (w14_rows.l0 kq x3_1 x4_1 l0_0 a0_1 a0_2 a0_3 a0_4 a0_5 a0_6 l0_7 = some r) ∧ As_ (kq ≤ k) ∧ As_ (Kd.R k24 24 w' w.heap.size (fun k_ => (w.heap.size ≤ k_)) v3 x3_1) ∧ As_ (Kd.V k24 24 w' w.heap.size (fun k_ => (P0_0_ k_ ∨ w.heap.size ≤ k_) ∧ some k_ ≠ (v3 : Value).ownBlock ∧ k_ ≠ gb374) (.slice A0_0 l0_0.length c0_0) l0_0) ∧ As_ (w'.heap[gb374]? = some (.cells #[(.slice A0_0 l0_0.length c0_0), .int .i64 a0_1, .int .i64 a0_2, .int .i64 a0_3, .int .i64 a0_4, .int .i64 a0_5, .string a0_6, (.slice A0_7 l0_7.length c0_7)] 27 (0, 0))) ∧ As_ (Below w.heap.size w w'))
 case atStart => exact ⟨(([] : List (S24))), (0), (by first | rfl | (simp; done) | (simp [*]; done) | (simp [wrap64]; done) | (congr 1; rw [Bool.eq_iff_iff]; simp; done)), H', ⟨Nat.le_refl _⟩, ⟨by first | exact Kd.R_nil _ _ _ _ _ | exact Kd.N_nil _ _ _ _ _ | exact Kd.V_nil _ _ _ _ _ | exact Kd.Q_nil _ _ _ _ _ | exact Kd.S_nil _ _ _ _ _⟩, ⟨by (with_reducible repeat (first | apply Kd.V_alloc | apply Kd.V_drewN | apply Kd.V_drew)); exact Kd.V_mono HO0_0.out (fun _ hk => ⟨hk.1, ⟨(by simp [Value.ownBlock]), hk.2⟩⟩)⟩, ⟨by (with_reducible repeat (first | refine kN_ ?_ _ | refine kD_ ?_ | refine kA_ ?_ _)); exact BK374.out⟩, ⟨by repeat (first | (with_reducible first | exact HB.out | apply bA_ | apply bN_ | apply b1_ | refine bS_ ?_ GE374.out) | exact HB.out)⟩⟩
 case round =>
  clear H'
  obtain ⟨x3_1, x4_1, rfl, HA, HK1, HO_3, HO_375000, BK374, HB⟩ := hrel
  cases gk with
  | zero => exact absurd HA.out (by simp [w14_rows.l0])
  | succ k1 =>
   have H := HA.out
   clear HA
   simp only [w14_rows.l0] at H
   have HC3 := As_.mk H
   clear H
   go_upto_region 3 with (fail)
   go_cut [14] (fun v14 wc => ∃ (kq : Nat) (x14_2 : Bool), v14 = .bool x14_2 ∧ As_ (w14_rows.j1 kq x3_1 x4_1 x14_2 l0_0 a0_1 a0_2 a0_3 a0_4 a0_5 a0_6 l0_7 = some r) ∧ As_ (kq ≤ k1) ∧ As_ (Kd.R k24 24 wc w.heap.size (fun k_ => (w.heap.size ≤ k_)) u3 x3_1) ∧ As_ (Kd.V k24 24 wc w.heap.size (fun k_ => (P0_0_ k_ ∨ w.heap.size ≤ k_) ∧ some k_ ≠ (u3 : Value).ownBlock ∧ k_ ≠ gb374) (.slice A0_0 l0_0.length c0_0) l0_0) ∧ As_ (wc.heap[gb374]? = some (.cells #[(.slice A0_0 l0_0.length c0_0), .int .i64 a0_1, .int .i64 a0_2, .int .i64 a0_3, .int .i64 a0_4, .int .i64 a0_5, .string a0_6, (.slice A0_7 l0_7.length c0_7)] 27 (0, 0))) ∧ As_ (Below w.heap.size w wc))
   case first =>
    have H := HC3.out
    clear HC3
    by_cases c4 : x4_1 < (l0_0.length : Int)
    ·rw [if_pos c4] at H
     have c4b0 : decide (x4_1 < (l0_0.length : Int)) = true := decide_eq_true c4
     clear c4
     (first | rw [c4b0] | (simp only [i64_w, i32_w]; rw [c4b0]) | skip)
     have H' := As_.mk H
     clear H
     have hcz5_0 : wr.cell? ⟨gb374, 0, none⟩ = some (.slice A0_0 l0_0.length c0_0) := (bC_ BK374.out 0).trans rfl
     have hcz5_1 : wr.cell? ⟨gb374, 1, none⟩ = some (.int .i64 a0_1) := (bC_ BK374.out 1).trans rfl
     have hcz5_2 : wr.cell? ⟨gb374, 2, none⟩ = some (.int .i64 a0_2) := (bC_ BK374.out 2).trans rfl
     have hcz5_3 : wr.cell? ⟨gb374, 3, none⟩ = some (.int .i64 a0_3) := (bC_ BK374.out 3).trans rfl
     have hcz5_4 : wr.cell? ⟨gb374, 4, none⟩ = some (.int .i64 a0_4) := (bC_ BK374.out 4).trans rfl
     have hcz5_5 : wr.cell? ⟨gb374, 5, none⟩ = some (.int .i64 a0_5) := (bC_ BK374.out 5).trans rfl
     have hcz5_6 : wr.cell? ⟨gb374, 6, none⟩ = some (.string a0_6) := (bC_ BK374.out 6).trans rfl
     have hcz5_7 : wr.cell? ⟨gb374, 7, none⟩ = some (.slice A0_7 l0_7.length c0_7) := (bC_ BK374.out 7).trans rfl
     have hfz5_0 := bZ_ BK374.out 0
     have hfz5_1 := bZ_ BK374.out 1
     have hfz5_2 := bZ_ BK374.out 2
     have hfz5_3 := bZ_ BK374.out 3
     have hfz5_4 := bZ_ BK374.out 4
     have hfz5_5 := bZ_ BK374.out 5
     have hfz5_6 := bZ_ BK374.out 6
     have hfz5_7 := bZ_ BK374.out 7
     obtain ⟨Ao6, co6, eo6⟩ := Kd.R_slice HO_3.out
     subst eo6
     go_wp2
     go_meet
     case rel => exact ⟨_, (decide ((x3_1.length : Int) < 40)), (by first | rfl | (simp; done) | (simp [*]; done) | (simp [wrap64]; done) | (congr 1; rw [Bool.eq_iff_iff]; simp; done)), H', ⟨by have := HK1.out; first | omega | exact Nat.le_refl _⟩, ⟨by (with_reducible repeat (first | apply Kd.R_alloc | apply Kd.R_drewN | apply Kd.R_drew)); exact HO_3.out⟩, ⟨by (with_reducible repeat (first | apply Kd.V_alloc | apply Kd.V_drewN | apply Kd.V_drew)); exact HO_375000.out⟩, ⟨by (with_reducible repeat (first | refine kN_ ?_ _ | refine kD_ ?_ | refine kA_ ?_ _)); exact BK374.out⟩, ⟨by repeat (first | (with_reducible first | exact HB.out | apply bA_ | apply bN_ | apply b1_ | refine bS_ ?_ GE374.out) | exact HB.out)⟩⟩
    rw [if_neg c4] at H
    have c4b0 : decide (x4_1 < (l0_0.length : Int)) = false := decide_eq_false c4
    clear c4
    (first | rw [c4b0] | (simp only [i64_w, i32_w]; rw [c4b0]) | skip)
    have H' := As_.mk H
    clear H
    have hcz7_0 : wr.cell? ⟨gb374, 0, none⟩ = some (.slice A0_0 l0_0.length c0_0) := (bC_ BK374.out 0).trans rfl
    have hcz7_1 : wr.cell? ⟨gb374, 1, none⟩ = some (.int .i64 a0_1) := (bC_ BK374.out 1).trans rfl
    have hcz7_2 : wr.cell? ⟨gb374, 2, none⟩ = some (.int .i64 a0_2) := (bC_ BK374.out 2).trans rfl
    have hcz7_3 : wr.cell? ⟨gb374, 3, none⟩ = some (.int .i64 a0_3) := (bC_ BK374.out 3).trans rfl
    have hcz7_4 : wr.cell? ⟨gb374, 4, none⟩ = some (.int .i64 a0_4) := (bC_ BK374.out 4).trans rfl
    have hcz7_5 : wr.cell? ⟨gb374, 5, none⟩ = some (.int .i64 a0_5) := (bC_ BK374.out 5).trans rfl
    have hcz7_6 : wr.cell? ⟨gb374, 6, none⟩ = some (.string a0_6) := (bC_ BK374.out 6).trans rfl
    have hcz7_7 : wr.cell? ⟨gb374, 7, none⟩ = some (.slice A0_7 l0_7.length c0_7) := (bC_ BK374.out 7).trans rfl
    have hfz7_0 := bZ_ BK374.out 0
    have hfz7_1 := bZ_ BK374.out 1
    have hfz7_2 := bZ_ BK374.out 2
    have hfz7_3 := bZ_ BK374.out 3
    have hfz7_4 := bZ_ BK374.out 4
    have hfz7_5 := bZ_ BK374.out 5
    have hfz7_6 := bZ_ BK374.out 6
    have hfz7_7 := bZ_ BK374.out 7
    go_wp2
    go_meet
    case rel => exact ⟨_, (false), (by first | rfl | (simp; done) | (simp [*]; done) | (simp [wrap64]; done) | (congr 1; rw [Bool.eq_iff_iff]; simp; done)), H', ⟨by have := HK1.out; first | omega | exact Nat.le_refl _⟩, ⟨by (with_reducible repeat (first | apply Kd.R_alloc | apply Kd.R_drewN | apply Kd.R_drew)); exact HO_3.out⟩, ⟨by (with_reducible repeat (first | apply Kd.V_alloc | apply Kd.V_drewN | apply Kd.V_drew)); exact HO_375000.out⟩, ⟨by (with_reducible repeat (first | refine kN_ ?_ _ | refine kD_ ?_ | refine kA_ ?_ _)); exact BK374.out⟩, ⟨by repeat (first | (with_reducible first | exact HB.out | apply bA_ | apply bN_ | apply b1_ | refine bS_ ?_ GE374.out) | exact HB.out)⟩⟩
   case rest =>
    clear HC3
    obtain ⟨kq, x14_2, rfl, HA, HJ2, HO_3, HO_375000, BK374, HB⟩ := hcut
    cases kq with
    | zero => exact absurd HA.out (by simp [w14_rows.j1])
    | succ kj2 =>
     have H := HA.out
     clear HA
     simp only [w14_rows.j1] at H
     by_cases c8 : x14_2 = true
     ·subst c8
      have H1 : (if 0 ≤ x4_1 then (if x4_1 ≤ (wrap64 (x4_1 + 1)) then (if (wrap64 (x4_1 + 1)) ≤ (l0_0.length : Int) then ((r13_Straight.f kj2 ((l0_0.take ((wrap64 (x4_1 + 1)) : Int).toNat).drop (x4_1 : Int).toNat)).bind fun t388 => (if t388 = true then (if x4_1 < (l0_0.length : Int) then (if x3_1.length < 2513169434916 then (w14_rows.l0 kj2 (x3_1 ++ [(⟨(q24 l0_0 x4_1).f0, (q24 l0_0 x4_1).f1, (q24 l0_0 x4_1).f2, (q24 l0_0 x4_1).f3, (q24 l0_0 x4_1).f4, (q24 l0_0 x4_1).f5⟩ : S24)]) (wrap64 (x4_1 + 1)) l0_0 a0_1 a0_2 a0_3 a0_4 a0_5 a0_6 l0_7) else (none)) else (none)) else (w14_rows.l0 kj2 x3_1 (wrap64 (x4_1 + 1)) l0_0 a0_1 a0_2 a0_3 a0_4 a0_5 a0_6 l0_7))) else (none)) else (none)) else (none)) = some r := by rw [if_pos rfl] at H; exact H
      clear H
      have H := H1
      clear H1
      by_cases c9 : 0 ≤ x4_1
      ·rw [if_pos c9] at H
       have c9b0 := eq_true c9
       have c9b1 : decide (0 ≤ x4_1) = true := decide_eq_true c9
       clear c9
       by_cases c10 : x4_1 ≤ (wrap64 (x4_1 + 1))
       ·rw [if_pos c10] at H
        have c10b0 := eq_true c10
        have c10b1 : decide (x4_1 ≤ (wrap64 (x4_1 + 1))) = true := decide_eq_true c10
        by_cases c11 : (wrap64 (x4_1 + 1)) ≤ (l0_0.length : Int)
        ·rw [if_pos c11] at H
         have c11b0 := eq_true c11
         have c11b1 : decide ((wrap64 (x4_1 + 1)) ≤ (l0_0.length : Int)) = true := decide_eq_true c11
         obtain ⟨y383, hy383⟩ : ∃ y_ : List (S24), y_ = ((l0_0.take ((wrap64 (x4_1 + 1)) : Int).toNat).drop (x4_1 : Int).toNat) := ⟨_, rfl⟩
         replace H : ((r13_Straight.f kj2 y383).bind fun t388 => (if t388 = true then (if x4_1 < (l0_0.length : Int) then (if x3_1.length < 2513169434916 then (w14_rows.l0 kj2 (x3_1 ++ [(⟨(q24 l0_0 x4_1).f0, (q24 l0_0 x4_1).f1, (q24 l0_0 x4_1).f2, (q24 l0_0 x4_1).f3, (q24 l0_0 x4_1).f4, (q24 l0_0 x4_1).f5⟩ : S24)]) (wrap64 (x4_1 + 1)) l0_0 a0_1 a0_2 a0_3 a0_4 a0_5 a0_6 l0_7) else (none)) else (none)) else (w14_rows.l0 kj2 x3_1 (wrap64 (x4_1 + 1)) l0_0 a0_1 a0_2 a0_3 a0_4 a0_5 a0_6 l0_7))) = some r := by first | (rw [hy383]; with_reducible exact H) | (have H2_ := (Option.bind_some _ _).symm.trans H; rw [hy383]; with_reducible exact H2_) | (have H2_ := (Option.bind_some _ _).symm.trans H; with_reducible exact H2_) | with_reducible exact H | (rw [hy383]; exact H) | exact H
         have Ny383 := As_.mk hy383
         clear hy383
         replace H := Option.bind_eq_some_iff.mp H
         obtain ⟨t388, A120, H⟩ := H
         replace H : (if t388 = true then (if x4_1 < (l0_0.length : Int) then (if x3_1.length < 2513169434916 then (w14_rows.l0 kj2 (x3_1 ++ [(⟨(q24 l0_0 x4_1).f0, (q24 l0_0 x4_1).f1, (q24 l0_0 x4_1).f2, (q24 l0_0 x4_1).f3, (q24 l0_0 x4_1).f4, (q24 l0_0 x4_1).f5⟩ : S24)]) (wrap64 (x4_1 + 1)) l0_0 a0_1 a0_2 a0_3 a0_4 a0_5 a0_6 l0_7) else (none)) else (none)) else (w14_rows.l0 kj2 x3_1 (wrap64 (x4_1 + 1)) l0_0 a0_1 a0_2 a0_3 a0_4 a0_5 a0_6 l0_7)) = some r := H
         have A12 := As_.mk A120
         clear A120
         by_cases c13 : t388 = true
         ·subst c13
          have H1 : (if x4_1 < (l0_0.length : Int) then (if x3_1.length < 2513169434916 then (w14_rows.l0 kj2 (x3_1 ++ [(⟨(q24 l0_0 x4_1).f0, (q24 l0_0 x4_1).f1, (q24 l0_0 x4_1).f2, (q24 l0_0 x4_1).f3, (q24 l0_0 x4_1).f4, (q24 l0_0 x4_1).f5⟩ : S24)]) (wrap64 (x4_1 + 1)) l0_0 a0_1 a0_2 a0_3 a0_4 a0_5 a0_6 l0_7) else (none)) else (none)) = some r := by rw [if_pos rfl] at H; exact H
          clear H
          have H := H1
          clear H1
          by_cases c14 : x4_1 < (l0_0.length : Int)
          ·rw [if_pos c14] at H
           have c14b0 : decide (x4_1 < (l0_0.length : Int)) = true := decide_eq_true c14
           clear c14
           by_cases c15 : x3_1.length < 2513169434916
           ·rw [if_pos c15] at H
            have LMc15 := As_.mk c15
            clear c15
            obtain ⟨y390, hy390⟩ : ∃ y_ : List (S24), y_ = (x3_1 ++ [(⟨(q24 l0_0 x4_1).f0, (q24 l0_0 x4_1).f1, (q24 l0_0 x4_1).f2, (q24 l0_0 x4_1).f3, (q24 l0_0 x4_1).f4, (q24 l0_0 x4_1).f5⟩ : S24)]) := ⟨_, rfl⟩
            replace H : (w14_rows.l0 kj2 y390 (wrap64 (x4_1 + 1)) l0_0 a0_1 a0_2 a0_3 a0_4 a0_5 a0_6 l0_7) = some r := by first | (rw [hy390]; with_reducible exact H) | (have H2_ := (Option.bind_some _ _).symm.trans H; rw [hy390]; with_reducible exact H2_) | (have H2_ := (Option.bind_some _ _).symm.trans H; with_reducible exact H2_) | with_reducible exact H | (rw [hy390]; exact H) | exact H
            have Ny390 := As_.mk hy390
            clear hy390
            have H' := As_.mk H
            clear H
            have hcz16_0 : wc.cell? ⟨gb374, 0, none⟩ = some (.slice A0_0 l0_0.length c0_0) := (bC_ BK374.out 0).trans rfl
            have hcz16_1 : wc.cell? ⟨gb374, 1, none⟩ = some (.int .i64 a0_1) := (bC_ BK374.out 1).trans rfl
            have hcz16_2 : wc.cell? ⟨gb374, 2, none⟩ = some (.int .i64 a0_2) := (bC_ BK374.out 2).trans rfl
            have hcz16_3 : wc.cell? ⟨gb374, 3, none⟩ = some (.int .i64 a0_3) := (bC_ BK374.out 3).trans rfl
            have hcz16_4 : wc.cell? ⟨gb374, 4, none⟩ = some (.int .i64 a0_4) := (bC_ BK374.out 4).trans rfl
            have hcz16_5 : wc.cell? ⟨gb374, 5, none⟩ = some (.int .i64 a0_5) := (bC_ BK374.out 5).trans rfl
            have hcz16_6 : wc.cell? ⟨gb374, 6, none⟩ = some (.string a0_6) := (bC_ BK374.out 6).trans rfl
            have hcz16_7 : wc.cell? ⟨gb374, 7, none⟩ = some (.slice A0_7 l0_7.length c0_7) := (bC_ BK374.out 7).trans rfl
            have hfz16_0 := bZ_ BK374.out 0
            have hfz16_1 := bZ_ BK374.out 1
            have hfz16_2 := bZ_ BK374.out 2
            have hfz16_3 := bZ_ BK374.out 3
            have hfz16_4 := bZ_ BK374.out 4
            have hfz16_5 := bZ_ BK374.out 5
            have hfz16_6 := bZ_ BK374.out 6
            have hfz16_7 := bZ_ BK374.out 7
            have q17 : ((wrap64 (x4_1 + 1)) : Int) ≤ ((l0_0.length : Int) : Int) := of_decide_eq_true (by assumption)
            obtain ⟨i017, hi017, _, hsz17, _⟩ := info_parts info24
            have hroom17 : l0_0.length ≤ c0_0 := (Kd.V_reads' HO_375000.out).2.1
            have hC17 : Kd.F k24 _ _ A0_0 l0_0.length l0_0 := (Kd.V_at (base := w.heap.size) HO_375000.out).2.2
            have ql17 : (x4_1 : Int) ≤ ((wrap64 (x4_1 + 1)) : Int) := of_decide_eq_true (by assumption)
            have q017 : (0 : Int) ≤ (x4_1 : Int) := of_decide_eq_true (by assumption)
            have hcut17 := cut_mid (P := Try.prog) 22 24 .i64 .i64 Try.underlying22 hi017 6 hsz17 A0_0 l0_0.length c0_0 x4_1 (wrap64 (x4_1 + 1)) q017 ql17 q17 hroom17
            have hr17 := Kd.F_mid (lo := (x4_1 : Int).toNat) (hi := ((wrap64 (x4_1 + 1)) : Int).toNat) (c := c0_0) hC17 (by omega) (by omega) hroom17
            obtain ⟨A17, hA17⟩ : ∃ A1, A1 = (if c0_0 = (x4_1 : Int).toNat then A0_0 else (A0_0 : Option Addr).map (·.add ((x4_1 : Int).toNat * 6))) := ⟨_, rfl⟩
            obtain ⟨c17, hc17⟩ : ∃ c1, c1 = c0_0 - (x4_1 : Int).toNat := ⟨_, rfl⟩
            have hy17 : y383.length = ((wrap64 (x4_1 + 1)) : Int).toNat - (x4_1 : Int).toNat := (by rw [Ny383.out, List.length_drop, List.length_take] <;> omega)
            rw [show ((l0_0).take ((wrap64 (x4_1 + 1)) : Int).toNat).drop (x4_1 : Int).toNat = y383 from Ny383.out.symm] at hr17
            replace hr17 : Kd.F k24 _ _ A17 y383.length y383 := (by rw [hA17]; exact hr17)
            rw [← hy17, ← hA17, ← hc17] at hcut17
            have HO387 := As_.mk (show Kd.V k24 24 _ w.heap.size _ (.slice A17 y383.length c17) y383 from Kd.V_mk (by rw [hy17, hc17]; exact Nat.sub_le_sub_right (Nat.le_trans (by omega) hroom17) _) hr17)
            have HC387 := As_.mk (show y383.length ≤ c17 from by rw [hy17, hc17]; exact Nat.sub_le_sub_right (Nat.le_trans (by omega) hroom17) _)
            clear hr17 hC17 hroom17 hi017 hsz17 hc17
            have KY17 := As_.mk hy17
            have KA17 := As_.mk hA17
            clear hy17 hA17
            replace q17 := eq_true q17
            go_wp2_with (first | ((with_reducible refine gC_ (f := 32) rfl ?_); refine goesL_ (some 23) rfl rfl Try.func32 (by kernel_rfl) rfl #[.slice A17 y383.length c17] rfl (by (try simp only [List.map_toArray, List.map_cons, List.map_nil]); first | done | rfl) ?_; (with_reducible refine (r13_Straight.calls kj2 _ _ y383 true _ ?side1 ?side2 A12.out).mono ?_); (case side1 => repeat (first | exact (Kd.V_reads' HO387.out).2.2 | (with_reducible refine Kd.C_alloc ?_ _) | (with_reducible refine Kd.C_drewN ?_ _) | (with_reducible refine Kd.C_drew ?_))); (case side2 => exact (Kd.V_reads' HO387.out).2.1); rintro e w18 ⟨rfl, hb⟩; refine ⟨_, rfl, ?_⟩; have n0_ := As_.mk (Kd.R_below (by (with_reducible repeat (first | apply Kd.R_alloc | apply Kd.R_drewN | apply Kd.R_drew)); exact HO_3.out) hb); have n1_ := As_.mk (Kd.V_below (by (with_reducible repeat (first | apply Kd.V_alloc | apply Kd.V_drewN | apply Kd.V_drew)); exact HO_375000.out) hb); have n2_ := As_.mk (Kd.V_below (by (with_reducible repeat (first | apply Kd.V_alloc | apply Kd.V_drewN | apply Kd.V_drew)); exact HO387.out) hb); have n3_ := As_.mk (kB_ (g := gb374) (o := .cells #[.slice A0_0 l0_0.length c0_0, .int .i64 a0_1, .int .i64 a0_2, .int .i64 a0_3, .int .i64 a0_4, .int .i64 a0_5, .string a0_6, .slice A0_7 l0_7.length c0_7] 27 (0, 0)) (by (with_reducible repeat (first | refine kN_ ?_ _ | refine kD_ ?_ | refine kA_ ?_ _)); exact BK374.out) hb); have n4_ := As_.mk (bT_ (by repeat (first | (with_reducible first | exact HB.out | apply bA_ | apply bN_ | apply b1_ | refine bS_ ?_ GE374.out) | exact HB.out)) hb); clear HO_3; clear HO_375000; clear HO387; clear BK374; clear HB; have HO_3 := n0_; have HO_375000 := n1_; have HO387 := n2_; have BK374 := n3_; have HB := n4_; clear n0_ n1_ n2_ n3_ n4_; have hcz19_0 : w18.cell? ⟨gb374, 0, none⟩ = some (.slice A0_0 l0_0.length c0_0) := (bC_ BK374.out 0).trans rfl; have hcz19_1 : w18.cell? ⟨gb374, 1, none⟩ = some (.int .i64 a0_1) := (bC_ BK374.out 1).trans rfl; have hcz19_2 : w18.cell? ⟨gb374, 2, none⟩ = some (.int .i64 a0_2) := (bC_ BK374.out 2).trans rfl; have hcz19_3 : w18.cell? ⟨gb374, 3, none⟩ = some (.int .i64 a0_3) := (bC_ BK374.out 3).trans rfl; have hcz19_4 : w18.cell? ⟨gb374, 4, none⟩ = some (.int .i64 a0_4) := (bC_ BK374.out 4).trans rfl; have hcz19_5 : w18.cell? ⟨gb374, 5, none⟩ = some (.int .i64 a0_5) := (bC_ BK374.out 5).trans rfl; have hcz19_6 : w18.cell? ⟨gb374, 6, none⟩ = some (.string a0_6) := (bC_ BK374.out 6).trans rfl; have hcz19_7 : w18.cell? ⟨gb374, 7, none⟩ = some (.slice A0_7 l0_7.length c0_7) := (bC_ BK374.out 7).trans rfl; have hfz19_0 := bZ_ BK374.out 0; have hfz19_1 := bZ_ BK374.out 1; have hfz19_2 := bZ_ BK374.out 2; have hfz19_3 := bZ_ BK374.out 3; have hfz19_4 := bZ_ BK374.out 4; have hfz19_5 := bZ_ BK374.out 5; have hfz19_6 := bZ_ BK374.out 6; have hfz19_7 := bZ_ BK374.out 7; have p389 : 0 ≤ (x4_1 : Int) := of_decide_eq_true (by assumption); have q389 : x4_1 < (l0_0.length : Int) := of_decide_eq_true (by assumption); obtain ⟨ad389, e389, hx389_0, hx389_1, hx389_2, hx389_3, hx389_4, hx389_5⟩ := at_T24 (Kd.V_reads' HO_375000.out).2.2 x4_1 p389 q389; cases e389; replace p389 := eq_true p389; replace q389 := eq_true q389) | ((with_reducible refine gate_builtin (b := .append) (xs := #[.tmp 24, .tmp 30]) rfl ?_); at_builtin; refine Kd.R_append k24 (w0 := w) w.heap.size rfl (.tmp 24) (.tmp 30) 22 24 (.agg #[(.int .i64 0), (.int .i64 0), (.int .i64 0), (.int .i64 0), (.int .i64 0), (.string ⟨#[]⟩)]) 56 rfl Try.underlying22 info24 rfl (by decide) (by omega) u3 x3_1 (⟨(q24 l0_0 x4_1).f0, (q24 l0_0 x4_1).f1, (q24 l0_0 x4_1).f2, (q24 l0_0 x4_1).f3, (q24 l0_0 x4_1).f4, (q24 l0_0 x4_1).f5⟩ : S24) [.int .i64 ((q24 l0_0 x4_1).f0), .int .i64 ((q24 l0_0 x4_1).f1), .int .i64 ((q24 l0_0 x4_1).f2), .int .i64 ((q24 l0_0 x4_1).f3), .int .i64 ((q24 l0_0 x4_1).f4), .string ((q24 l0_0 x4_1).f5)] (fun k_ => (w.heap.size ≤ k_)) (fun _ => False) rfl rfl ?aP (fun _ hk => hk.elim) ?aF ?aO ?aB ?aS ?aL ?_; (case aP => exact k24_mkM _ _ _ (⟨(q24 l0_0 x4_1).f0, (q24 l0_0 x4_1).f1, (q24 l0_0 x4_1).f2, (q24 l0_0 x4_1).f3, (q24 l0_0 x4_1).f4, (q24 l0_0 x4_1).f5⟩ : S24)); (case aB => exact (by repeat (first | (with_reducible first | exact HB.out | apply bA_ | apply bN_ | apply b1_ | refine bS_ ?_ GE374.out) | exact HB.out))); (case aF => exact (fun k_ hk => (Nat.le_trans (bY_ (by repeat (first | (with_reducible first | exact HB.out | apply bA_ | apply bN_ | apply b1_ | refine bS_ ?_ GE374.out) | exact HB.out))) hk))); (case aO => exact (by (with_reducible repeat (first | apply Kd.R_alloc | apply Kd.R_drewN | apply Kd.R_drew)); exact HO_3.out)); (case aS => exact (bY_ (by repeat (first | (with_reducible first | exact HB.out | apply bA_ | apply bN_ | apply b1_ | refine bS_ ?_ GE374.out) | exact HB.out)))); (case aL => have := LMc15.out; omega); intro v391 w20 ho hb hg hat; rw [← Ny390.out] at ho; have n0_ := As_.mk (Kd.V_afterv (ok := (fun k_ => (P0_0_ k_ ∨ w.heap.size ≤ k_) ∧ k_ ≠ gb374)) (by (with_reducible repeat (first | apply Kd.V_alloc | apply Kd.V_drewN | apply Kd.V_drew)); exact Kd.V_mono HO_375000.out (fun _ hk => ⟨⟨hk.1, hk.2.2⟩, hk.2.1⟩)) hg hat); have n1_ := As_.mk (blk_grown (g := gb374) (o := .cells #[.slice (some ad389) l0_0.length c0_0, .int .i64 a0_1, .int .i64 a0_2, .int .i64 a0_3, .int .i64 a0_4, .int .i64 a0_5, .string a0_6, .slice A0_7 l0_7.length c0_7] 27 (0, 0)) (by (with_reducible repeat (first | refine kN_ ?_ _ | refine kD_ ?_ | refine kA_ ?_ _)); exact BK374.out) hg (Kd.R_ne HO_3.out BK374.out (by decide))); have n2_ := As_.mk (Kd.V_afterv (ok := (fun k_ => (P0_0_ k_ ∨ w.heap.size ≤ k_) ∧ k_ ≠ gb374)) (by (with_reducible repeat (first | apply Kd.V_alloc | apply Kd.V_drewN | apply Kd.V_drew)); exact Kd.V_mono HO387.out (fun _ hk => ⟨⟨hk.1, hk.2.2⟩, hk.2.1⟩)) hg hat); have n3_ := As_.mk (hb); have n4_ := As_.mk (ho); clear HO_375000; clear BK374; clear HO387; clear HB; clear HO_3; have HO_375000 := n0_; have BK374 := n1_; have HO387 := n2_; have HB := n3_; have HO392 := n4_; clear n0_ n1_ n2_ n3_ n4_; clear ho hb hg hat))
            go_roundg kj2
            case measure => have := HK1.out; have := HJ2.out; omega
            case rel => exact ⟨(y390), (wrap64 (x4_1 + 1)), (by first | rfl | (simp; done) | (simp [*]; done) | (simp [wrap64]; done) | (congr 1; rw [Bool.eq_iff_iff]; simp; done)), H', ⟨by have := HK1.out; have := HJ2.out; omega⟩, ⟨by (with_reducible repeat (first | apply Kd.R_alloc | apply Kd.R_drewN | apply Kd.R_drew)); exact HO392.out⟩, ⟨by (with_reducible repeat (first | apply Kd.V_alloc | apply Kd.V_drewN | apply Kd.V_drew)); exact Kd.V_mono HO_375000.out (fun _ hk => ⟨hk.1.1, ⟨hk.2, hk.1.2⟩⟩)⟩, ⟨by (with_reducible repeat (first | refine kN_ ?_ _ | refine kD_ ?_ | refine kA_ ?_ _)); exact BK374.out⟩, ⟨by repeat (first | (with_reducible first | exact HB.out | apply bA_ | apply bN_ | apply b1_ | refine bS_ ?_ GE374.out) | exact HB.out)⟩⟩
           rw [if_neg c15] at H
           exact absurd H (by simp)
          rw [if_neg c14] at H
          exact absurd H (by simp)
         replace c13 := Bool.eq_false_iff.mpr c13
         subst c13
         have H1 : (w14_rows.l0 kj2 x3_1 (wrap64 (x4_1 + 1)) l0_0 a0_1 a0_2 a0_3 a0_4 a0_5 a0_6 l0_7) = some r := by rw [if_neg (show ¬ (false = true) by decide)] at H; exact H
         clear H
         have H := H1
         clear H1
         have H' := As_.mk H
         clear H
         have hcz21_0 : wc.cell? ⟨gb374, 0, none⟩ = some (.slice A0_0 l0_0.length c0_0) := (bC_ BK374.out 0).trans rfl
         have hcz21_1 : wc.cell? ⟨gb374, 1, none⟩ = some (.int .i64 a0_1) := (bC_ BK374.out 1).trans rfl
         have hcz21_2 : wc.cell? ⟨gb374, 2, none⟩ = some (.int .i64 a0_2) := (bC_ BK374.out 2).trans rfl
         have hcz21_3 : wc.cell? ⟨gb374, 3, none⟩ = some (.int .i64 a0_3) := (bC_ BK374.out 3).trans rfl
         have hcz21_4 : wc.cell? ⟨gb374, 4, none⟩ = some (.int .i64 a0_4) := (bC_ BK374.out 4).trans rfl
         have hcz21_5 : wc.cell? ⟨gb374, 5, none⟩ = some (.int .i64 a0_5) := (bC_ BK374.out 5).trans rfl
         have hcz21_6 : wc.cell? ⟨gb374, 6, none⟩ = some (.string a0_6) := (bC_ BK374.out 6).trans rfl
         have hcz21_7 : wc.cell? ⟨gb374, 7, none⟩ = some (.slice A0_7 l0_7.length c0_7) := (bC_ BK374.out 7).trans rfl
         have hfz21_0 := bZ_ BK374.out 0
         have hfz21_1 := bZ_ BK374.out 1
         have hfz21_2 := bZ_ BK374.out 2
         have hfz21_3 := bZ_ BK374.out 3
         have hfz21_4 := bZ_ BK374.out 4
         have hfz21_5 := bZ_ BK374.out 5
         have hfz21_6 := bZ_ BK374.out 6
         have hfz21_7 := bZ_ BK374.out 7
         have q22 : ((wrap64 (x4_1 + 1)) : Int) ≤ ((l0_0.length : Int) : Int) := of_decide_eq_true (by assumption)
         obtain ⟨i022, hi022, _, hsz22, _⟩ := info_parts info24
         have hroom22 : l0_0.length ≤ c0_0 := (Kd.V_reads' HO_375000.out).2.1
         have hC22 : Kd.F k24 _ _ A0_0 l0_0.length l0_0 := (Kd.V_at (base := w.heap.size) HO_375000.out).2.2
         have ql22 : (x4_1 : Int) ≤ ((wrap64 (x4_1 + 1)) : Int) := of_decide_eq_true (by assumption)
         have q022 : (0 : Int) ≤ (x4_1 : Int) := of_decide_eq_true (by assumption)
         have hcut22 := cut_mid (P := Try.prog) 22 24 .i64 .i64 Try.underlying22 hi022 6 hsz22 A0_0 l0_0.length c0_0 x4_1 (wrap64 (x4_1 + 1)) q022 ql22 q22 hroom22
         have hr22 := Kd.F_mid (lo := (x4_1 : Int).toNat) (hi := ((wrap64 (x4_1 + 1)) : Int).toNat) (c := c0_0) hC22 (by omega) (by omega) hroom22
         obtain ⟨A22, hA22⟩ : ∃ A1, A1 = (if c0_0 = (x4_1 : Int).toNat then A0_0 else (A0_0 : Option Addr).map (·.add ((x4_1 : Int).toNat * 6))) := ⟨_, rfl⟩
         obtain ⟨c22, hc22⟩ : ∃ c1, c1 = c0_0 - (x4_1 : Int).toNat := ⟨_, rfl⟩
         have hy22 : y383.length = ((wrap64 (x4_1 + 1)) : Int).toNat - (x4_1 : Int).toNat := (by rw [Ny383.out, List.length_drop, List.length_take] <;> omega)
         rw [show ((l0_0).take ((wrap64 (x4_1 + 1)) : Int).toNat).drop (x4_1 : Int).toNat = y383 from Ny383.out.symm] at hr22
         replace hr22 : Kd.F k24 _ _ A22 y383.length y383 := (by rw [hA22]; exact hr22)
         rw [← hy22, ← hA22, ← hc22] at hcut22
         have HO387 := As_.mk (show Kd.V k24 24 _ w.heap.size _ (.slice A22 y383.length c22) y383 from Kd.V_mk (by rw [hy22, hc22]; exact Nat.sub_le_sub_right (Nat.le_trans (by omega) hroom22) _) hr22)
         have HC387 := As_.mk (show y383.length ≤ c22 from by rw [hy22, hc22]; exact Nat.sub_le_sub_right (Nat.le_trans (by omega) hroom22) _)
         clear hr22 hC22 hroom22 hi022 hsz22 hc22
         have KY22 := As_.mk hy22
         have KA22 := As_.mk hA22
         clear hy22 hA22
         replace q22 := eq_true q22
         go_wp2_with (first | ((with_reducible refine gC_ (f := 32) rfl ?_); refine goesL_ (some 23) rfl rfl Try.func32 (by kernel_rfl) rfl #[.slice A22 y383.length c22] rfl (by (try simp only [List.map_toArray, List.map_cons, List.map_nil]); first | done | rfl) ?_; (with_reducible refine (r13_Straight.calls kj2 _ _ y383 false _ ?side1 ?side2 A12.out).mono ?_); (case side1 => repeat (first | exact (Kd.V_reads' HO387.out).2.2 | (with_reducible refine Kd.C_alloc ?_ _) | (with_reducible refine Kd.C_drewN ?_ _) | (with_reducible refine Kd.C_drew ?_))); (case side2 => exact (Kd.V_reads' HO387.out).2.1); rintro e w23 ⟨rfl, hb⟩; refine ⟨_, rfl, ?_⟩; have n0_ := As_.mk (Kd.R_below (by (with_reducible repeat (first | apply Kd.R_alloc | apply Kd.R_drewN | apply Kd.R_drew)); exact HO_3.out) hb); have n1_ := As_.mk (Kd.V_below (by (with_reducible repeat (first | apply Kd.V_alloc | apply Kd.V_drewN | apply Kd.V_drew)); exact HO_375000.out) hb); have n2_ := As_.mk (Kd.V_below (by (with_reducible repeat (first | apply Kd.V_alloc | apply Kd.V_drewN | apply Kd.V_drew)); exact HO387.out) hb); have n3_ := As_.mk (kB_ (g := gb374) (o := .cells #[.slice A0_0 l0_0.length c0_0, .int .i64 a0_1, .int .i64 a0_2, .int .i64 a0_3, .int .i64 a0_4, .int .i64 a0_5, .string a0_6, .slice A0_7 l0_7.length c0_7] 27 (0, 0)) (by (with_reducible repeat (first | refine kN_ ?_ _ | refine kD_ ?_ | refine kA_ ?_ _)); exact BK374.out) hb); have n4_ := As_.mk (bT_ (by repeat (first | (with_reducible first | exact HB.out | apply bA_ | apply bN_ | apply b1_ | refine bS_ ?_ GE374.out) | exact HB.out)) hb); clear HO_3; clear HO_375000; clear HO387; clear BK374; clear HB; have HO_3 := n0_; have HO_375000 := n1_; have HO387 := n2_; have BK374 := n3_; have HB := n4_; clear n0_ n1_ n2_ n3_ n4_))
         go_roundg kj2
         case measure => have := HK1.out; have := HJ2.out; omega
         case rel => exact ⟨(x3_1), (wrap64 (x4_1 + 1)), (by first | rfl | (simp; done) | (simp [*]; done) | (simp [wrap64]; done) | (congr 1; rw [Bool.eq_iff_iff]; simp; done)), H', ⟨by have := HK1.out; have := HJ2.out; omega⟩, ⟨by (with_reducible repeat (first | apply Kd.R_alloc | apply Kd.R_drewN | apply Kd.R_drew)); exact HO_3.out⟩, ⟨by (with_reducible repeat (first | apply Kd.V_alloc | apply Kd.V_drewN | apply Kd.V_drew)); exact HO_375000.out⟩, ⟨by (with_reducible repeat (first | refine kN_ ?_ _ | refine kD_ ?_ | refine kA_ ?_ _)); exact BK374.out⟩, ⟨by repeat (first | (with_reducible first | exact HB.out | apply bA_ | apply bN_ | apply b1_ | refine bS_ ?_ GE374.out) | exact HB.out)⟩⟩
        rw [if_neg c11] at H
        exact absurd H (by simp)
       rw [if_neg c10] at H
       exact absurd H (by simp)
      rw [if_neg c9] at H
      exact absurd H (by simp)
     replace c8 := Bool.eq_false_iff.mpr c8
     subst c8
     have H1 : (if 0 ≤ (wrap64 ((x3_1.length : Int) / 2)) then (if (wrap64 ((x3_1.length : Int) / 2)) ≤ (x3_1.length : Int) then (some (([l0_0, x3_1, (x3_1.take ((wrap64 ((x3_1.length : Int) / 2)) : Int).toNat), []] : List (List (S24))))) else (none)) else (none)) = some r := by rw [if_neg (show ¬ (false = true) by decide)] at H; exact H
     clear H
     have H := H1
     clear H1
     obtain ⟨ji24, hji24⟩ : ∃ j_ : Int, (wrap64 ((x3_1.length : Int) / 2)) = j_ := ⟨_, rfl⟩
     replace H : (if 0 ≤ (ji24) then (if (ji24) ≤ (x3_1.length : Int) then (some (([l0_0, x3_1, (x3_1.take ((ji24) : Int).toNat), []] : List (List (S24))))) else (none)) else (none)) = some r := by first | (rw [hji24] at H; exact H) | (simp only [hji24] at H ⊢; exact H)
     have hji24w : (IntKind.i64.wrap ((x3_1.length : Int) / 2)) = ji24 := (i64_w _).trans hji24
     by_cases c25 : 0 ≤ (ji24)
     ·rw [if_pos c25] at H
      have c25b0 := eq_true c25
      have c25b1 : decide (0 ≤ (ji24)) = true := decide_eq_true c25
      clear c25
      by_cases c26 : (ji24) ≤ (x3_1.length : Int)
      ·rw [if_pos c26] at H
       have c26b0 := eq_true c26
       have c26b1 : decide ((ji24) ≤ (x3_1.length : Int)) = true := decide_eq_true c26
       clear c26
       obtain ⟨y375, hy375⟩ : ∃ y_ : List (S24), y_ = (x3_1.take ((ji24) : Int).toNat) := ⟨_, rfl⟩
       replace H : (some (([l0_0, x3_1, y375, []] : List (List (S24))))) = some r := by first | (rw [hy375]; with_reducible exact H) | (have H2_ := (Option.bind_some _ _).symm.trans H; rw [hy375]; with_reducible exact H2_) | (have H2_ := (Option.bind_some _ _).symm.trans H; with_reducible exact H2_) | with_reducible exact H | (rw [hy375]; exact H) | exact H
       have Ny375 := As_.mk hy375
       clear hy375
       obtain ⟨y380, hy380⟩ : ∃ y_ : List (List (S24)), y_ = (([l0_0, x3_1, y375, []] : List (List (S24)))) := ⟨_, rfl⟩
       replace H : (some y380) = some r := by first | (rw [hy380]; with_reducible exact H) | (have H2_ := (Option.bind_some _ _).symm.trans H; rw [hy380]; with_reducible exact H2_) | (have H2_ := (Option.bind_some _ _).symm.trans H; with_reducible exact H2_) | with_reducible exact H | (rw [hy380]; exact H) | exact H
       have Ny380 := As_.mk hy380
       clear hy380
       obtain rfl := Option.some.inj H
       try go_wp2
       have n0_ := As_.mk (Kd.R_drew HO_3.out)
       have n1_ := As_.mk (Kd.V_drew HO_375000.out)
       have n2_ := As_.mk (kD_ BK374.out)
       have n3_ := As_.mk (b1_ HB.out)
       clear HO_3
       clear HO_375000
       clear BK374
       clear HB
       have HO_3 := n0_
       have HO_375000 := n1_
       have BK374 := n2_
       have HB := n3_
       clear n0_ n1_ n2_ n3_
       obtain ⟨Ao28, co28, eo28⟩ := Kd.R_slice HO_3.out
       (first | subst eo28 | (injection eo28 with f1_ f2_ f3_; have f4_ := f1_.symm; have f5_ := f3_.symm; clear f1_ f2_ f3_; subst f4_; subst f5_))
       have q29 : ((ji24) : Int) ≤ ((x3_1.length : Int) : Int) := of_decide_eq_true (by assumption)
       obtain ⟨i029, hi029, _, hsz29, _⟩ := info_parts info24
       have hroom29 : x3_1.length ≤ co28 := (Kd.R_reads' HO_3.out).2.1
       have hC29 : Kd.F k24 _ _ Ao28 x3_1.length x3_1 := (Kd.V_at (base := w.heap.size) (Kd.V_mono (ok' := (fun k_ => ((P0_0_ k_ ∨ w.heap.size ≤ k_) ∧ k_ ≠ gb374))) (Kd.R_V (Kd.R_types (HO_3.out) BK374.out (by decide))) (fun k_ hk => ⟨(.inr (hk.1)), hk.2⟩))).2.2
       have hcut29 := cut_to (P := Try.prog) 22 24 .i64 Try.underlying22 hi029 Ao28 x3_1.length co28 (ji24) (of_decide_eq_true (by assumption)) q29 hroom29
       have hr29 := Kd.F_take (m := ((ji24) : Int).toNat) hC29 (by omega)
       have hy29 : y375.length = ((ji24) : Int).toNat := (by rw [Ny375.out, List.length_take]; omega)
       rw [← Ny375.out] at hr29
       rw [← hy29] at hcut29
       have HO379 := As_.mk (show Kd.V k24 24 _ w.heap.size _ (.slice Ao28 y375.length co28) y375 from Kd.V_mk (by omega) hr29)
       have HC379 := As_.mk (show y375.length ≤ co28 from by omega)
       clear hr29 hC29 hroom29 hi029 hsz29
       have KY29 := As_.mk hy29
       clear hy29
       replace q29 := eq_true q29
       refine start_ (n := 10) (S := fun w' => w'.cell? ⟨gb374, 0, none⟩ = some (.slice A0_0 l0_0.length c0_0) ∧ w'.cell? ⟨gb374, 1, none⟩ = some (.int .i64 a0_1) ∧ w'.cell? ⟨gb374, 2, none⟩ = some (.int .i64 a0_2) ∧ w'.cell? ⟨gb374, 3, none⟩ = some (.int .i64 a0_3) ∧ w'.cell? ⟨gb374, 4, none⟩ = some (.int .i64 a0_4) ∧ w'.cell? ⟨gb374, 5, none⟩ = some (.int .i64 a0_5) ∧ w'.cell? ⟨gb374, 6, none⟩ = some (.string a0_6) ∧ w'.cell? ⟨gb374, 7, none⟩ = some (.slice A0_7 l0_7.length c0_7)) (ds := []) #[false, false, false, false, false, false, false, false, false, false] (by kernel_rfl) rfl (by kernel_rfl) ⟨(bC_ BK374.out 0).trans rfl, (bC_ BK374.out 1).trans rfl, (bC_ BK374.out 2).trans rfl, (bC_ BK374.out 3).trans rfl, (bC_ BK374.out 4).trans rfl, (bC_ BK374.out 5).trans rfl, (bC_ BK374.out 6).trans rfl, (bC_ BK374.out 7).trans rfl⟩ (fun hHeld => ?_); refine with_tabW w14_rows.tab7 w14_rows.bits7 (fun HT_ HW_ => ?_)
       generalize wc.drew = w27 at HO_3 HO_375000 BK374 HB HO379 hHeld ⊢
       refine pure_ (i := 0) (N := some 32) (v := ?_) (a' := ?_) #[true, false, false, false, false, false, false, false, false, false] rfl rfl (any_of HT_.out (by kernel_rfl)) (fun _ _ _ h => h) (Or.inl ⟨by rfl, ?_⟩) ?_ ?_
       rotate_left
       ·intro w'
        go_simp
        with_reducible rfl
       rotate_left
       ·simp only [Act.put, List.setIfInBounds_toArray, List.set_cons_zero, List.set_cons_succ, i64_w, i32_w]
        rfl
       refine pure_ (i := 2) (N := some 34) (v := ?_) (a' := ?_) #[true, false, true, false, false, false, false, false, false, false] rfl rfl (any_of HT_.out (by kernel_rfl)) (fun _ _ _ h => h) (Or.inl ⟨by rfl, ?_⟩) ?_ ?_
       rotate_left
       ·intro w'
        go_simp
        with_reducible rfl
       rotate_left
       ·simp only [Act.put, List.setIfInBounds_toArray, List.set_cons_zero, List.set_cons_succ, i64_w, i32_w]
        rfl
       refine pure_ (i := 3) (N := some 35) (v := ?_) (a' := ?_) #[true, false, true, true, false, false, false, false, false, false] rfl rfl (any_of HT_.out (by kernel_rfl)) (fun _ _ _ h => h) (Or.inl ⟨by rfl, ?_⟩) ?_ ?_
       rotate_left
       ·intro w'
        go_simp
        with_reducible rfl
       rotate_left
       ·simp only [Act.put, List.setIfInBounds_toArray, List.set_cons_zero, List.set_cons_succ, i64_w, i32_w]
        rfl
       refine pure_ (i := 4) (N := some 36) (v := ?_) (a' := ?_) #[true, false, true, true, true, false, false, false, false, false] rfl rfl (any_of HT_.out (by kernel_rfl)) (fun _ _ _ h => h) (Or.inl ⟨by rfl, ?_⟩) ?_ ?_
       rotate_left
       ·intro w'
        go_simp
        with_reducible rfl
       rotate_left
       ·simp only [Act.put, List.setIfInBounds_toArray, List.set_cons_zero, List.set_cons_succ, i64_w, i32_w]
        rfl
       refine pure_ (i := 5) (N := some 37) (v := ?_) (a' := ?_) #[true, false, true, true, true, true, false, false, false, false] rfl rfl (any_of HT_.out (by kernel_rfl)) (fun _ _ _ h => h) (Or.inl ⟨by rfl, ?_⟩) ?_ ?_
       rotate_left
       ·intro w'
        go_simp
        with_reducible rfl
       rotate_left
       ·simp only [Act.put, List.setIfInBounds_toArray, List.set_cons_zero, List.set_cons_succ, i64_w, i32_w]
        rfl
       refine pure_ (i := 6) (N := some 38) (v := ?_) (a' := ?_) #[true, false, true, true, true, true, true, false, false, false] rfl rfl (any_of HT_.out (by kernel_rfl)) (fun _ _ _ h => h) (Or.inl ⟨by rfl, ?_⟩) ?_ ?_
       rotate_left
       ·intro w'
        go_simp
        with_reducible rfl
       rotate_left
       ·simp only [Act.put, List.setIfInBounds_toArray, List.set_cons_zero, List.set_cons_succ, i64_w, i32_w]
        rfl
       refine pure_ (i := 7) (N := some 39) (v := ?_) (a' := ?_) #[true, false, true, true, true, true, true, true, false, false] rfl rfl (any_of HT_.out (by kernel_rfl)) (fun _ _ _ h => h) (Or.inl ⟨by rfl, ?_⟩) ?_ ?_
       rotate_left
       ·intro w'
        go_simp
        with_reducible rfl
       rotate_left
       ·simp only [Act.put, List.setIfInBounds_toArray, List.set_cons_zero, List.set_cons_succ, i64_w, i32_w]
        rfl
       refine take_ (i := 1) (N := some 33) (v := ?_) (a' := ?_) #[true, true, true, true, true, true, true, true, false, false] rfl rfl (take_ofW HT_.out HW_.out (by kernel_rfl)) (fun _ _ _ h => h) (Or.inl ⟨by rfl, ?_⟩) hHeld ?_ ?_
       rotate_left
       ·rintro w' ⟨s0, s1, s2, s3, s4, s5, s6, s7⟩
        go_simp
        with_reducible rfl
       rotate_left
       ·simp only [Act.put, List.setIfInBounds_toArray, List.set_cons_zero, List.set_cons_succ, i64_w, i32_w]
        rfl
       refine one_ (i := 8) (N := some 40) #[true, true, true, true, true, true, true, true, true, false] rfl rfl (one_of HT_.out (by kernel_rfl)) (by decide) (fun K hK => ?_)
       refine Kd.N_lit_step (Kd.slice 24 k24) _ 22 ?hg (N' := 40) ?hd (xs := ([l0_0, x3_1, y375, []] : List (List (S24)))) (inner := [.slice A0_0 l0_0.length c0_0, .slice Ao28 x3_1.length co28, .slice Ao28 y375.length co28, .slice none 0 0]) (ok := (fun k_ => (P0_0_ k_ ∨ w.heap.size ≤ k_) ∧ k_ ≠ gb374)) (okp := (fun k_ => (P0_0_ k_ ∨ w.heap.size ≤ k_) ∧ k_ ≠ gb374)) ?hr ?hp (fun _ hk => hk) ((show ∀ k_, w27.heap.size ≤ k_ → (fun k_ => (P0_0_ k_ ∨ w.heap.size ≤ k_) ∧ k_ ≠ gb374) k_ from fun k_ hk => ⟨(.inr (Nat.le_trans (bY_ (by repeat (first | (with_reducible first | exact HB.out | apply bA_ | apply bN_ | apply b1_ | refine bS_ ?_ GE374.out) | exact HB.out))) hk)), Kd.freshB (g := gb374) (o := .cells #[.slice A0_0 l0_0.length c0_0, .int .i64 a0_1, .int .i64 a0_2, .int .i64 a0_3, .int .i64 a0_4, .int .i64 a0_5, .string a0_6, .slice A0_7 l0_7.length c0_7] 27 (0, 0)) (by (with_reducible repeat (first | refine kN_ ?_ _ | refine kD_ ?_ | refine kA_ ?_ _)); exact BK374.out) k_ hk⟩) _ (Nat.le_refl _)) (Below.refl _ _) (Nat.le_refl _) (by simp) ?_; (case hd => rfl); (case hg => rfl); (case hr => first | (go_simp; done) | (go_simp; rfl)); (case hp => exact (Reps.one (show Kd.FK (Kd.slice 24 k24) _ _ l0_0 [.slice A0_0 l0_0.length c0_0] from (Kd.FK_slice_mk (Kd.V_reads' (Kd.V_mono (ok' := (fun k_ => (P0_0_ k_ ∨ w.heap.size ≤ k_) ∧ k_ ≠ gb374)) (HO_375000.out) (fun k_ hk => ⟨hk.1, hk.2.2⟩))).2.1 (Kd.V_F (Kd.V_mono (ok' := (fun k_ => (P0_0_ k_ ∨ w.heap.size ≤ k_) ∧ k_ ≠ gb374)) (HO_375000.out) (fun k_ hk => ⟨hk.1, hk.2.2⟩))))) (Reps.one (show Kd.FK (Kd.slice 24 k24) _ _ x3_1 [.slice Ao28 x3_1.length co28] from (Kd.FK_slice_mk (Kd.R_reads' (Kd.R_mono (ok' := (fun k_ => (P0_0_ k_ ∨ w.heap.size ≤ k_) ∧ k_ ≠ gb374)) (Kd.R_types (HO_3.out) BK374.out (by decide)) (fun k_ hk => ⟨(.inr (hk.1)), hk.2⟩))).2.1 (Kd.R_F (Kd.R_mono (ok' := (fun k_ => (P0_0_ k_ ∨ w.heap.size ≤ k_) ∧ k_ ≠ gb374)) (Kd.R_types (HO_3.out) BK374.out (by decide)) (fun k_ hk => ⟨(.inr (hk.1)), hk.2⟩))))) (Reps.one (show Kd.FK (Kd.slice 24 k24) _ _ y375 [.slice Ao28 y375.length co28] from (Kd.FK_slice_mk (Kd.V_reads' (Kd.V_mono (ok' := (fun k_ => (P0_0_ k_ ∨ w.heap.size ≤ k_) ∧ k_ ≠ gb374)) (HO379.out) (fun k_ hk => ⟨hk.1, hk.2⟩))).2.1 (Kd.V_F (Kd.V_mono (ok' := (fun k_ => (P0_0_ k_ ∨ w.heap.size ≤ k_) ∧ k_ ≠ gb374)) (HO379.out) (fun k_ hk => ⟨hk.1, hk.2⟩))))) (Reps.one (show Kd.FK (Kd.slice 24 k24) _ _ [] [.slice none 0 0] from (Kd.FK_slice_mk (Nat.le_refl _) (Kd.F_nil _ _ _))) (Reps.none _ _))))))
       intro v381 w30 ho31 hb hg_ hnew_
       clear hg_ hnew_
       (first | rw [← Ny380.out] at ho31 | (simp only [Int.reduceToNat] at ho31; rw [← Ny380.out] at ho31))
       have n0_ := As_.mk (Kd.V_elder' (by (with_reducible repeat (first | apply Kd.V_alloc | apply Kd.V_drewN | apply Kd.V_drew)); exact HO_375000.out) (Kd.N_base ho31) hb)
       have n1_ := As_.mk (Kd.V_elder' (by (with_reducible repeat (first | apply Kd.V_alloc | apply Kd.V_drewN | apply Kd.V_drew)); exact HO379.out) (Kd.N_base ho31) hb)
       have n2_ := As_.mk (Kd.N_lower ho31 (bY_ (by repeat (first | (with_reducible first | exact HB.out | apply bA_ | apply bN_ | apply b1_ | refine bS_ ?_ GE374.out) | exact HB.out))))
       have n3_ := As_.mk (kB_ (g := gb374) (o := .cells #[.slice A0_0 l0_0.length c0_0, .int .i64 a0_1, .int .i64 a0_2, .int .i64 a0_3, .int .i64 a0_4, .int .i64 a0_5, .string a0_6, .slice A0_7 l0_7.length c0_7] 27 (0, 0)) (by (with_reducible repeat (first | refine kN_ ?_ _ | refine kD_ ?_ | refine kA_ ?_ _)); exact BK374.out) hb)
       have n4_ := As_.mk (bT_ (by repeat (first | (with_reducible first | exact HB.out | apply bA_ | apply bN_ | apply b1_ | refine bS_ ?_ GE374.out) | exact HB.out)) hb)
       clear HO_375000
       clear HO379
       clear BK374
       clear HB
       clear HO_3
       have HO_375000 := n0_
       have HO379 := n1_
       have HO382 := n2_
       have BK374 := n3_
       have HB := n4_
       clear n0_ n1_ n2_ n3_ n4_
       clear hb ho31
       refine hK.out _ _ ⟨(bC_ BK374.out 0).trans rfl, (bC_ BK374.out 1).trans rfl, (bC_ BK374.out 2).trans rfl, (bC_ BK374.out 3).trans rfl, (bC_ BK374.out 4).trans rfl, (bC_ BK374.out 5).trans rfl, (bC_ BK374.out 6).trans rfl, (bC_ BK374.out 7).trans rfl⟩ (fun hHeld => ?_)
       clear hK K
       refine norm_ (a' := ?_) ?_ ?_
       rotate_left
       ·show Act.put _ (some 40) _ = _
        simp only [Act.put, List.setIfInBounds_toArray, List.set_cons_zero, List.set_cons_succ, i64_w, i32_w]
        rfl
       refine pure_ (i := 9) (N := some 2) (v := ?_) (a' := ?_) #[true, true, true, true, true, true, true, true, true, true] rfl rfl (any_of HT_.out (by kernel_rfl)) (fun _ _ _ h => h) (Or.inl ⟨by rfl, ?_⟩) ?_ ?_
       rotate_left
       ·intro w'
        go_simp
        with_reducible rfl
       rotate_left
       ·simp only [Act.put, List.setIfInBounds_toArray, List.set_cons_zero, List.set_cons_succ, i64_w, i32_w]
        rfl
       refine done_ (done_of HT_.out (by kernel_rfl)) ?_
       try go_wp2
       go_ret
       exact ⟨_, by first | rfl | (simp [eN_, eS_] <;> rfl) | (simp only [← hji24]; first | rfl | (simp [eN_, eS_] <;> rfl)) | (simp [*, eN_, eS_] <;> rfl), by (with_reducible repeat (first | apply Kd.N_alloc | apply Kd.N_drewN | apply Kd.N_drew)); exact Kd.N_mono HO382.out (fun _ hk => hk.1), by repeat (first | (with_reducible first | exact HB.out | apply bA_ | apply bN_ | apply b1_ | refine bS_ ?_ GE374.out) | exact HB.out)⟩
      rw [if_neg c26] at H
      exact absurd H (by simp)
     rw [if_neg c25] at H
     exact absurd H (by simp)
end Go.Proofs.Ytibfkkjkahpobaa.PDag
