-- the texts that this claim needs, out of this session's and its print's (wip/shrink.py)
import Derived.Test.YtibfkkjkahpobaaPDagx0L
import Derived.Test.YtibfkkjkahpobaaPDagx3L
namespace Go.Proofs.Ytibfkkjkahpobaa.PDag
open Go.RowKit Go.Proofs.YtibfkkjkahpobaaW.PrintWords Go.Proofs.YtibfkkjkahpobaaW.PrintLast Go.Proofs.YtibfkkjkahpobaaW.PrintMore
attribute [local go_sem] max2_int min2_int max_two min_two max_three min_three max_four min_four   -- for this text's walks alone
set_option linter.unusedVariables false
set_option linter.unusedSimpArgs false
def r3_Effect.f (a0 : Int) : Option (Bool) := if a0 = 16 then (some true) else (if a0 = 17 then (some true) else ((r0_Between.f a0 24 27).bind fun t200 => (if t200 = true then (some true) else ((r0_Between.f a0 31 33).bind fun t201 => (some t201)))))
set_option maxHeartbeats 8000000 in
set_option maxRecDepth 100000 in
theorem r3_Effect.calls (a0 : Int) (r : Bool) (w : World) (h : r3_Effect.f a0 = some r) :
    Calls Try.prog 36 #[.int .i64 a0] w fun e w' => e = .returned (.bool r) ∧ Dr_ w w' := by
 have H : (if a0 = 16 then (some true) else (if a0 = 17 then (some true) else ((r0_Between.f a0 24 27).bind fun t200 => (if t200 = true then (some true) else ((r0_Between.f a0 31 33).bind fun t201 => (some t201)))))) = some r := h
 clear h
 by_cases c2 : a0 = 16
 ·rw [if_pos c2] at H
  have c2b0 : (a0 == 16) = true := beq_iff_eq.mpr c2
  have c2b1 : (a0 != 16) = false := bne_eq_false_iff_eq.mpr c2
  clear c2
  obtain rfl := Option.some.inj H
  go_enter Try.func36, Try.ntmps36
  go_wp2
  go_ret
  exact ⟨by first | rfl | (simp; done) | (simp [*]; done) | (simp [wrap64]; done) | (congr 1; rw [Bool.eq_iff_iff]; simp; done), by repeat (first | exact Dr_.refl _ | apply Dr_.step)⟩
 rw [if_neg c2] at H
 have c2b0 : (a0 == 16) = false := beq_eq_false_iff_ne.mpr c2
 have c2b1 : (a0 != 16) = true := bne_iff_ne.mpr c2
 by_cases c3 : a0 = 17
 ·rw [if_pos c3] at H
  have c3b0 : (a0 == 17) = true := beq_iff_eq.mpr c3
  have c3b1 : (a0 != 17) = false := bne_eq_false_iff_eq.mpr c3
  clear c3
  obtain rfl := Option.some.inj H
  go_enter Try.func36, Try.ntmps36
  go_wp2
  go_ret
  exact ⟨by first | rfl | (simp; done) | (simp [*]; done) | (simp [wrap64]; done) | (congr 1; rw [Bool.eq_iff_iff]; simp; done), by repeat (first | exact Dr_.refl _ | apply Dr_.step)⟩
 rw [if_neg c3] at H
 have c3b0 : (a0 == 17) = false := beq_eq_false_iff_ne.mpr c3
 have c3b1 : (a0 != 17) = true := bne_iff_ne.mpr c3
 replace H := Option.bind_eq_some_iff.mp H
 obtain ⟨t200, A40, H⟩ := H
 replace H : (if t200 = true then (some true) else ((r0_Between.f a0 31 33).bind fun t201 => (some t201))) = some r := H
 have A4 := As_.mk A40
 clear A40
 by_cases c5 : t200 = true
 ·subst c5
  have H1 : (some true) = some r := by rw [if_pos rfl] at H; exact H
  clear H
  have H := H1
  clear H1
  obtain rfl := Option.some.inj H
  go_enter Try.func36, Try.ntmps36
  go_wp2_with (first | (go_at_call 54; (with_reducible refine (r0_Between.calls a0 24 27 true _ A4.out).mono ?_); rintro e w' ⟨rfl, ⟨nd, rfl⟩⟩))
  go_ret
  exact ⟨by first | rfl | (simp; done) | (simp [*]; done) | (simp [wrap64]; done) | (congr 1; rw [Bool.eq_iff_iff]; simp; done), by repeat (first | exact Dr_.refl _ | apply Dr_.step)⟩
 replace c5 := Bool.eq_false_iff.mpr c5
 subst c5
 have H1 : ((r0_Between.f a0 31 33).bind fun t201 => (some t201)) = some r := by rw [if_neg (show ¬ (false = true) by decide)] at H; exact H
 clear H
 have H := H1
 clear H1
 replace H := Option.bind_eq_some_iff.mp H
 obtain ⟨t201, A60, H⟩ := H
 replace H : (some t201) = some r := H
 have A6 := As_.mk A60
 clear A60
 obtain rfl := Option.some.inj H
 go_enter Try.func36, Try.ntmps36
 go_wp2_with (first | (go_at_call 54; (with_reducible refine (r0_Between.calls a0 24 27 false _ A4.out).mono ?_); rintro e w' ⟨rfl, ⟨nd, rfl⟩⟩) | (go_at_call 54; (with_reducible refine (r0_Between.calls a0 31 33 t201 _ A6.out).mono ?_); rintro e w' ⟨rfl, ⟨nd, rfl⟩⟩))
 go_ret
 exact ⟨by first | rfl | (simp; done) | (simp [*]; done) | (simp [wrap64]; done) | (congr 1; rw [Bool.eq_iff_iff]; simp; done), by repeat (first | exact Dr_.refl _ | apply Dr_.step)⟩
def r3_Writes.f (a0_0 : Int) (a0_1 : Int) (a0_2 : Int) (a0_3 : Int) (a0_4 : Int) (a0_5 : ByteArray) : Option (Int) := (r3_Form.f a0_0).bind fun t203 => ((r3_HasD.f t203).bind fun t204 => (if t204 = true then (some a0_1) else (some (-1))))
set_option maxHeartbeats 8000000 in
set_option maxRecDepth 100000 in
theorem r3_Writes.calls (a0_0 : Int) (a0_1 : Int) (a0_2 : Int) (a0_3 : Int) (a0_4 : Int) (a0_5 : ByteArray) (r : Int) (w : World) (h : r3_Writes.f a0_0 a0_1 a0_2 a0_3 a0_4 a0_5 = some r) :
    Calls Try.prog 71 #[.agg #[.int .i64 a0_0, .int .i64 a0_1, .int .i64 a0_2, .int .i64 a0_3, .int .i64 a0_4, .string a0_5]] w fun e w' => e = .returned (.int .i64 r) ∧ Below w.heap.size w w' := by
 have hu24 := Try.underlying24
 have HB := As_.mk (Below.refl w.heap.size w)
 have H : ((r3_Form.f a0_0).bind fun t203 => ((r3_HasD.f t203).bind fun t204 => (if t204 = true then (some a0_1) else (some (-1))))) = some r := h
 clear h
 replace H := Option.bind_eq_some_iff.mp H
 obtain ⟨t203, A20, H⟩ := H
 replace H : ((r3_HasD.f t203).bind fun t204 => (if t204 = true then (some a0_1) else (some (-1)))) = some r := H
 have A2 := As_.mk A20
 clear A20
 replace H := Option.bind_eq_some_iff.mp H
 obtain ⟨t204, A30, H⟩ := H
 replace H : (if t204 = true then (some a0_1) else (some (-1))) = some r := H
 have A3 := As_.mk A30
 clear A30
 by_cases c4 : t204 = true
 ·subst c4
  have H1 : (some a0_1) = some r := by rw [if_pos rfl] at H; exact H
  clear H
  have H := H1
  clear H1
  obtain rfl := Option.some.inj H
  go_enter Try.func71, Try.ntmps71
  go_wp2_with (first | ((with_reducible refine gate_dst (N := 1) rfl ?_); refine box_event ?hg (N := 1) ?hd (cs := #[.int .i64 a0_0, .int .i64 a0_1, .int .i64 a0_2, .int .i64 a0_3, .int .i64 a0_4, .string a0_5]) (t := 24) ?hr ?_; (case hd => rfl); (case hg => rfl); (case hr => first | (go_simp; done) | (go_simp; rfl)); intro gb202 hg w5 hbox hb; have n0_ := As_.mk (bT_ (by repeat (first | (with_reducible first | exact HB.out | apply bA_ | apply bN_ | apply b1_) | exact HB.out)) hb); have n1_ := As_.mk (hbox); have n2_ := As_.mk ((by rw [hg]; exact (bY_ (by repeat (first | (with_reducible first | exact HB.out | apply bA_ | apply bN_ | apply b1_) | exact HB.out))) : w.heap.size ≤ gb202)); have n3_ := As_.mk ((by rw [hg]; exact (bY_ (by repeat (first | (with_reducible first | exact HB.out | apply bA_ | apply bN_ | apply b1_) | exact HB.out))) : w.heap.size ≤ gb202)); clear HB; have HB := n0_; have BK202 := n1_; have GW202 := n2_; have GE202 := n3_; clear n0_ n1_ n2_ n3_; clear hb hbox hg; have hcz6_0 : w5.cell? ⟨gb202, 0, none⟩ = some (.int .i64 a0_0) := (bC_ BK202.out 0).trans rfl; have hcz6_1 : w5.cell? ⟨gb202, 1, none⟩ = some (.int .i64 a0_1) := (bC_ BK202.out 1).trans rfl; have hcz6_2 : w5.cell? ⟨gb202, 2, none⟩ = some (.int .i64 a0_2) := (bC_ BK202.out 2).trans rfl; have hcz6_3 : w5.cell? ⟨gb202, 3, none⟩ = some (.int .i64 a0_3) := (bC_ BK202.out 3).trans rfl; have hcz6_4 : w5.cell? ⟨gb202, 4, none⟩ = some (.int .i64 a0_4) := (bC_ BK202.out 4).trans rfl; have hcz6_5 : w5.cell? ⟨gb202, 5, none⟩ = some (.string a0_5) := (bC_ BK202.out 5).trans rfl; have hfz6_0 := bZ_ BK202.out 0; have hfz6_1 := bZ_ BK202.out 1; have hfz6_2 := bZ_ BK202.out 2; have hfz6_3 := bZ_ BK202.out 3; have hfz6_4 := bZ_ BK202.out 4; have hfz6_5 := bZ_ BK202.out 5) | ((with_reducible refine gC_ (f := 15) rfl ?_); refine goesL_ (some 5) rfl rfl Try.func15 (by kernel_rfl) rfl #[.int .i64 a0_0] rfl (by (try simp only [List.map_toArray, List.map_cons, List.map_nil]); first | done | rfl) ?_; (with_reducible refine (r3_Form.calls a0_0 t203 _ A2.out).mono ?_); rintro e w7 ⟨rfl, hb⟩; refine ⟨_, rfl, ?_⟩; have n0_ := As_.mk (kB_ (g := gb202) (o := .cells #[.int .i64 a0_0, .int .i64 a0_1, .int .i64 a0_2, .int .i64 a0_3, .int .i64 a0_4, .string a0_5] 24 (0, 0)) (by (with_reducible repeat (first | refine kN_ ?_ _ | refine kD_ ?_ | refine kA_ ?_ _)); exact BK202.out) hb); have n1_ := As_.mk (bT_ (by repeat (first | (with_reducible first | exact HB.out | apply bA_ | apply bN_ | apply b1_ | refine bS_ ?_ GE202.out) | exact HB.out)) hb); clear BK202; clear HB; have BK202 := n0_; have HB := n1_; clear n0_ n1_) | ((with_reducible refine gC_ (f := 16) rfl ?_); refine goesL_ (some 6) rfl rfl Try.func16 (by kernel_rfl) rfl #[.int .i64 t203] rfl (by (try simp only [List.map_toArray, List.map_cons, List.map_nil]); first | done | rfl) ?_; (with_reducible refine (r3_HasD.calls t203 true _ A3.out).mono ?_); rintro e w' ⟨rfl, ⟨nd, rfl⟩⟩; refine ⟨_, rfl, ?_⟩; have hcz8_0 : w7.cell? ⟨gb202, 0, none⟩ = some (.int .i64 a0_0) := (bC_ BK202.out 0).trans rfl; have hcz8_1 : w7.cell? ⟨gb202, 1, none⟩ = some (.int .i64 a0_1) := (bC_ BK202.out 1).trans rfl; have hcz8_2 : w7.cell? ⟨gb202, 2, none⟩ = some (.int .i64 a0_2) := (bC_ BK202.out 2).trans rfl; have hcz8_3 : w7.cell? ⟨gb202, 3, none⟩ = some (.int .i64 a0_3) := (bC_ BK202.out 3).trans rfl; have hcz8_4 : w7.cell? ⟨gb202, 4, none⟩ = some (.int .i64 a0_4) := (bC_ BK202.out 4).trans rfl; have hcz8_5 : w7.cell? ⟨gb202, 5, none⟩ = some (.string a0_5) := (bC_ BK202.out 5).trans rfl; have hfz8_0 := bZ_ BK202.out 0; have hfz8_1 := bZ_ BK202.out 1; have hfz8_2 := bZ_ BK202.out 2; have hfz8_3 := bZ_ BK202.out 3; have hfz8_4 := bZ_ BK202.out 4; have hfz8_5 := bZ_ BK202.out 5))
  go_ret
  exact ⟨by first | rfl | (simp [eN_, eS_] <;> rfl) | (simp [*, eN_, eS_] <;> rfl), by repeat (first | (with_reducible first | exact HB.out | apply bA_ | apply bN_ | apply b1_ | refine bS_ ?_ GE202.out) | exact HB.out)⟩
 replace c4 := Bool.eq_false_iff.mpr c4
 subst c4
 have H1 : (some (-1)) = some r := by rw [if_neg (show ¬ (false = true) by decide)] at H; exact H
 clear H
 have H := H1
 clear H1
 obtain rfl := Option.some.inj H
 go_enter Try.func71, Try.ntmps71
 go_wp2_with (first | ((with_reducible refine gate_dst (N := 1) rfl ?_); refine box_event ?hg (N := 1) ?hd (cs := #[.int .i64 a0_0, .int .i64 a0_1, .int .i64 a0_2, .int .i64 a0_3, .int .i64 a0_4, .string a0_5]) (t := 24) ?hr ?_; (case hd => rfl); (case hg => rfl); (case hr => first | (go_simp; done) | (go_simp; rfl)); intro gb202 hg w9 hbox hb; have n0_ := As_.mk (bT_ (by repeat (first | (with_reducible first | exact HB.out | apply bA_ | apply bN_ | apply b1_) | exact HB.out)) hb); have n1_ := As_.mk (hbox); have n2_ := As_.mk ((by rw [hg]; exact (bY_ (by repeat (first | (with_reducible first | exact HB.out | apply bA_ | apply bN_ | apply b1_) | exact HB.out))) : w.heap.size ≤ gb202)); have n3_ := As_.mk ((by rw [hg]; exact (bY_ (by repeat (first | (with_reducible first | exact HB.out | apply bA_ | apply bN_ | apply b1_) | exact HB.out))) : w.heap.size ≤ gb202)); clear HB; have HB := n0_; have BK202 := n1_; have GW202 := n2_; have GE202 := n3_; clear n0_ n1_ n2_ n3_; clear hb hbox hg; have hcz10_0 : w9.cell? ⟨gb202, 0, none⟩ = some (.int .i64 a0_0) := (bC_ BK202.out 0).trans rfl; have hcz10_1 : w9.cell? ⟨gb202, 1, none⟩ = some (.int .i64 a0_1) := (bC_ BK202.out 1).trans rfl; have hcz10_2 : w9.cell? ⟨gb202, 2, none⟩ = some (.int .i64 a0_2) := (bC_ BK202.out 2).trans rfl; have hcz10_3 : w9.cell? ⟨gb202, 3, none⟩ = some (.int .i64 a0_3) := (bC_ BK202.out 3).trans rfl; have hcz10_4 : w9.cell? ⟨gb202, 4, none⟩ = some (.int .i64 a0_4) := (bC_ BK202.out 4).trans rfl; have hcz10_5 : w9.cell? ⟨gb202, 5, none⟩ = some (.string a0_5) := (bC_ BK202.out 5).trans rfl; have hfz10_0 := bZ_ BK202.out 0; have hfz10_1 := bZ_ BK202.out 1; have hfz10_2 := bZ_ BK202.out 2; have hfz10_3 := bZ_ BK202.out 3; have hfz10_4 := bZ_ BK202.out 4; have hfz10_5 := bZ_ BK202.out 5) | ((with_reducible refine gC_ (f := 15) rfl ?_); refine goesL_ (some 5) rfl rfl Try.func15 (by kernel_rfl) rfl #[.int .i64 a0_0] rfl (by (try simp only [List.map_toArray, List.map_cons, List.map_nil]); first | done | rfl) ?_; (with_reducible refine (r3_Form.calls a0_0 t203 _ A2.out).mono ?_); rintro e w11 ⟨rfl, hb⟩; refine ⟨_, rfl, ?_⟩; have n0_ := As_.mk (kB_ (g := gb202) (o := .cells #[.int .i64 a0_0, .int .i64 a0_1, .int .i64 a0_2, .int .i64 a0_3, .int .i64 a0_4, .string a0_5] 24 (0, 0)) (by (with_reducible repeat (first | refine kN_ ?_ _ | refine kD_ ?_ | refine kA_ ?_ _)); exact BK202.out) hb); have n1_ := As_.mk (bT_ (by repeat (first | (with_reducible first | exact HB.out | apply bA_ | apply bN_ | apply b1_ | refine bS_ ?_ GE202.out) | exact HB.out)) hb); clear BK202; clear HB; have BK202 := n0_; have HB := n1_; clear n0_ n1_) | ((with_reducible refine gC_ (f := 16) rfl ?_); refine goesL_ (some 6) rfl rfl Try.func16 (by kernel_rfl) rfl #[.int .i64 t203] rfl (by (try simp only [List.map_toArray, List.map_cons, List.map_nil]); first | done | rfl) ?_; (with_reducible refine (r3_HasD.calls t203 false _ A3.out).mono ?_); rintro e w' ⟨rfl, ⟨nd, rfl⟩⟩; refine ⟨_, rfl, ?_⟩))
 go_ret
 exact ⟨by first | rfl | (simp [eN_, eS_] <;> rfl) | (simp [*, eN_, eS_] <;> rfl), by repeat (first | (with_reducible first | exact HB.out | apply bA_ | apply bN_ | apply b1_ | refine bS_ ?_ GE202.out) | exact HB.out)⟩
def r0_In.l0 : Nat → List Int → Int → Int → Option (Int)
  | 0, _, _, _ => none
  | k + 1, x0, x1, x5 => if x5 < (x0.length : Int) then (if 0 ≤ x5 then (if (rd x0 x5) = x1 then (some x5) else (r0_In.l0 k x0 x1 (wrap64 (x5 + 1)))) else (none)) else (some (-1))
def r0_In.f (k : Nat) (l0 : List Int) (a1 : Int) : Option (Int) := r0_In.l0 k l0 a1 0
set_option maxHeartbeats 8000000 in
set_option maxRecDepth 100000 in
theorem r0_In.calls (k : Nat) (A0 : Option Addr) (c0 : Nat) (l0 : List Int) (a1 : Int) (r : Int) (w : World) (hr0 : Kd.C (Kd.int .i64) w A0 l0.length l0) (hc0 : l0.length ≤ c0) (h : r0_In.f k l0 a1 = some r) :
    Calls Try.prog 72 #[.slice A0 l0.length c0, .int .i64 a1] w fun e w' => e = .returned (.int .i64 r) ∧ Dr_ w w' := by
 have HR0 := As_.mk hr0
 have HC0 := As_.mk hc0
 clear hr0 hc0
 have H : (r0_In.l0 k l0 a1 0) = some r := h
 clear h
 have H' := As_.mk H
 clear H
 go_enter Try.func72, Try.ntmps72
 go_wp2
 go_loopg [5] k (fun kq v5 w' => ∃ (x5_1 : Int), v5 = .int .i64 x5_1 ∧ As_ (r0_In.l0 kq l0 a1 x5_1 = some r) ∧ As_ (kq ≤ k) ∧ Dr_ w w')
 case atStart => exact ⟨(0), (by first | rfl | (simp; done) | (simp [*]; done) | (simp [wrap64]; done) | (congr 1; rw [Bool.eq_iff_iff]; simp; done)), H', ⟨Nat.le_refl _⟩, by repeat (first | exact Dr_.refl _ | apply Dr_.step)⟩
 case round =>
  clear H'
  obtain ⟨x5_1, rfl, HA, HK1, ⟨m1, rfl⟩⟩ := hrel
  cases gk with
  | zero => exact absurd HA.out (by simp [r0_In.l0])
  | succ k1 =>
   have H := HA.out
   clear HA
   simp only [r0_In.l0] at H
   by_cases c3 : x5_1 < (l0.length : Int)
   ·rw [if_pos c3] at H
    have c3b0 : decide (x5_1 < (l0.length : Int)) = true := decide_eq_true c3
    clear c3
    by_cases c4 : 0 ≤ x5_1
    ·rw [if_pos c4] at H
     have c4b0 : decide (0 ≤ x5_1) = true := decide_eq_true c4
     clear c4
     by_cases c5 : (rd l0 x5_1) = a1
     ·rw [if_pos c5] at H
      have c5b0 : ((rd l0 x5_1) == a1) = true := beq_iff_eq.mpr c5
      have c5b1 : ((rd l0 x5_1) != a1) = false := bne_eq_false_iff_eq.mpr c5
      clear c5
      obtain rfl := Option.some.inj H
      have p205 : 0 ≤ (x5_1 : Int) := of_decide_eq_true (by assumption)
      have q205 : x5_1 < (l0.length : Int) := of_decide_eq_true (by assumption)
      obtain ⟨ad205, e205, hx205_0⟩ := Kd.at_int HR0.out x5_1 p205 q205
      cases e205
      replace p205 := eq_true p205
      replace q205 := eq_true q205
      go_wp2
      go_ret
      exact ⟨by first | rfl | (simp; done) | (simp [*]; done) | (simp [wrap64]; done) | (congr 1; rw [Bool.eq_iff_iff]; simp; done), by repeat (first | exact Dr_.refl _ | apply Dr_.step)⟩
     rw [if_neg c5] at H
     have c5b0 : ((rd l0 x5_1) == a1) = false := beq_eq_false_iff_ne.mpr c5
     have c5b1 : ((rd l0 x5_1) != a1) = true := bne_iff_ne.mpr c5
     have H' := As_.mk H
     clear H
     have p205 : 0 ≤ (x5_1 : Int) := of_decide_eq_true (by assumption)
     have q205 : x5_1 < (l0.length : Int) := of_decide_eq_true (by assumption)
     obtain ⟨ad205, e205, hx205_0⟩ := Kd.at_int HR0.out x5_1 p205 q205
     cases e205
     replace p205 := eq_true p205
     replace q205 := eq_true q205
     go_wp2
     go_roundg k1
     case measure => have := HK1.out; omega
     case rel => exact ⟨(wrap64 (x5_1 + 1)), (by first | rfl | (simp; done) | (simp [*]; done) | (simp [wrap64]; done) | (congr 1; rw [Bool.eq_iff_iff]; simp; done)), H', ⟨by have := HK1.out; omega⟩, by repeat (first | exact Dr_.refl _ | apply Dr_.step)⟩
    rw [if_neg c4] at H
    exact absurd H (by simp)
   rw [if_neg c3] at H
   have c3b0 : decide (x5_1 < (l0.length : Int)) = false := decide_eq_false c3
   clear c3
   obtain rfl := Option.some.inj H
   go_wp2
   go_ret
   exact ⟨by first | rfl | (simp; done) | (simp [*]; done) | (simp [wrap64]; done) | (congr 1; rw [Bool.eq_iff_iff]; simp; done), by repeat (first | exact Dr_.refl _ | apply Dr_.step)⟩
def r3_Reads.j0 : Nat → List Int → Int → Int → Int → Int → Int → Int → ByteArray → Option (List Int)
  | 0, _, _, _, _, _, _, _, _ => none
  | k + 1, x3, x4, x207a, x207b, x207c, x207d, x207e, x207f => (r3_HasB.f x4).bind fun t212 => (if t212 = true then (if x3.length < 17592186044416 then (some (x3 ++ [x207d])) else (none)) else (some x3))
def r3_Reads.f (k : Nat) (a0_0 : Int) (a0_1 : Int) (a0_2 : Int) (a0_3 : Int) (a0_4 : Int) (a0_5 : ByteArray) : Option (List Int) := (r3_Form.f a0_0).bind fun t207 => ((r3_HasA.f t207).bind fun t208 => (if t208 = true then (if ([] : List Int).length < 17592186044416 then (r3_Reads.j0 k (([] : List Int) ++ [a0_2]) t207 a0_0 a0_1 a0_2 a0_3 a0_4 a0_5) else (none)) else (r3_Reads.j0 k ([] : List Int) t207 a0_0 a0_1 a0_2 a0_3 a0_4 a0_5)))
set_option maxHeartbeats 8000000 in
set_option maxRecDepth 100000 in
theorem r3_Reads.calls (k : Nat) (a0_0 : Int) (a0_1 : Int) (a0_2 : Int) (a0_3 : Int) (a0_4 : Int) (a0_5 : ByteArray) (r : List Int) (w : World) (h : r3_Reads.f k a0_0 a0_1 a0_2 a0_3 a0_4 a0_5 = some r) :
    Calls Try.prog 73 #[.agg #[.int .i64 a0_0, .int .i64 a0_1, .int .i64 a0_2, .int .i64 a0_3, .int .i64 a0_4, .string a0_5]] w fun e w' => ∃ v0_ : Value, e = .returned (v0_) ∧ Kd.R (Kd.int .i64) 3 w' w.heap.size (fun _ => True) v0_ r ∧ Below w.heap.size w w' := by
 have hu24 := Try.underlying24
 have HB := As_.mk (Below.refl w.heap.size w)
 have H : ((r3_Form.f a0_0).bind fun t207 => ((r3_HasA.f t207).bind fun t208 => (if t208 = true then (if ([] : List Int).length < 17592186044416 then (r3_Reads.j0 k (([] : List Int) ++ [a0_2]) t207 a0_0 a0_1 a0_2 a0_3 a0_4 a0_5) else (none)) else (r3_Reads.j0 k ([] : List Int) t207 a0_0 a0_1 a0_2 a0_3 a0_4 a0_5)))) = some r := h
 clear h
 replace H := Option.bind_eq_some_iff.mp H
 obtain ⟨t207, A20, H⟩ := H
 replace H : ((r3_HasA.f t207).bind fun t208 => (if t208 = true then (if ([] : List Int).length < 17592186044416 then (r3_Reads.j0 k (([] : List Int) ++ [a0_2]) t207 a0_0 a0_1 a0_2 a0_3 a0_4 a0_5) else (none)) else (r3_Reads.j0 k ([] : List Int) t207 a0_0 a0_1 a0_2 a0_3 a0_4 a0_5))) = some r := H
 have A2 := As_.mk A20
 clear A20
 replace H := Option.bind_eq_some_iff.mp H
 obtain ⟨t208, A30, H⟩ := H
 replace H : (if t208 = true then (if ([] : List Int).length < 17592186044416 then (r3_Reads.j0 k (([] : List Int) ++ [a0_2]) t207 a0_0 a0_1 a0_2 a0_3 a0_4 a0_5) else (none)) else (r3_Reads.j0 k ([] : List Int) t207 a0_0 a0_1 a0_2 a0_3 a0_4 a0_5)) = some r := H
 have A3 := As_.mk A30
 clear A30
 have HC4 := As_.mk H
 clear H
 go_enter Try.func73, Try.ntmps73
 go_upto_if 9 with (first | ((with_reducible refine gate_dst (N := 1) rfl ?_); refine box_event ?hg (N := 1) ?hd (cs := #[.int .i64 a0_0, .int .i64 a0_1, .int .i64 a0_2, .int .i64 a0_3, .int .i64 a0_4, .string a0_5]) (t := 24) ?hr ?_; (case hd => rfl); (case hg => rfl); (case hr => first | (go_simp; done) | (go_simp; rfl)); intro gb206 hg w5 hbox hb; have n0_ := As_.mk (bT_ (by repeat (first | (with_reducible first | exact HB.out | apply bA_ | apply bN_ | apply b1_) | exact HB.out)) hb); have n1_ := As_.mk (hbox); have n2_ := As_.mk ((by rw [hg]; exact (bY_ (by repeat (first | (with_reducible first | exact HB.out | apply bA_ | apply bN_ | apply b1_) | exact HB.out))) : w.heap.size ≤ gb206)); have n3_ := As_.mk ((by rw [hg]; exact (bY_ (by repeat (first | (with_reducible first | exact HB.out | apply bA_ | apply bN_ | apply b1_) | exact HB.out))) : w.heap.size ≤ gb206)); clear HB; have HB := n0_; have BK206 := n1_; have GW206 := n2_; have GE206 := n3_; clear n0_ n1_ n2_ n3_; clear hb hbox hg; have hcz6_0 : w5.cell? ⟨gb206, 0, none⟩ = some (.int .i64 a0_0) := (bC_ BK206.out 0).trans rfl; have hcz6_1 : w5.cell? ⟨gb206, 1, none⟩ = some (.int .i64 a0_1) := (bC_ BK206.out 1).trans rfl; have hcz6_2 : w5.cell? ⟨gb206, 2, none⟩ = some (.int .i64 a0_2) := (bC_ BK206.out 2).trans rfl; have hcz6_3 : w5.cell? ⟨gb206, 3, none⟩ = some (.int .i64 a0_3) := (bC_ BK206.out 3).trans rfl; have hcz6_4 : w5.cell? ⟨gb206, 4, none⟩ = some (.int .i64 a0_4) := (bC_ BK206.out 4).trans rfl; have hcz6_5 : w5.cell? ⟨gb206, 5, none⟩ = some (.string a0_5) := (bC_ BK206.out 5).trans rfl; have hfz6_0 := bZ_ BK206.out 0; have hfz6_1 := bZ_ BK206.out 1; have hfz6_2 := bZ_ BK206.out 2; have hfz6_3 := bZ_ BK206.out 3; have hfz6_4 := bZ_ BK206.out 4; have hfz6_5 := bZ_ BK206.out 5) | ((with_reducible refine gC_ (f := 15) rfl ?_); refine goesL_ (some 7) rfl rfl Try.func15 (by kernel_rfl) rfl #[.int .i64 a0_0] rfl (by (try simp only [List.map_toArray, List.map_cons, List.map_nil]); first | done | rfl) ?_; (with_reducible refine (r3_Form.calls a0_0 t207 _ A2.out).mono ?_); rintro e w7 ⟨rfl, hb⟩; refine ⟨_, rfl, ?_⟩; have n0_ := As_.mk (kB_ (g := gb206) (o := .cells #[.int .i64 a0_0, .int .i64 a0_1, .int .i64 a0_2, .int .i64 a0_3, .int .i64 a0_4, .string a0_5] 24 (0, 0)) (by (with_reducible repeat (first | refine kN_ ?_ _ | refine kD_ ?_ | refine kA_ ?_ _)); exact BK206.out) hb); have n1_ := As_.mk (bT_ (by repeat (first | (with_reducible first | exact HB.out | apply bA_ | apply bN_ | apply b1_ | refine bS_ ?_ GE206.out) | exact HB.out)) hb); clear BK206; clear HB; have BK206 := n0_; have HB := n1_; clear n0_ n1_) | ((with_reducible refine gC_ (f := 17) rfl ?_); refine goesL_ (some 9) rfl rfl Try.func17 (by kernel_rfl) rfl #[.int .i64 t207] rfl (by (try simp only [List.map_toArray, List.map_cons, List.map_nil]); first | done | rfl) ?_; (with_reducible refine (r3_HasA.calls t207 t208 _ A3.out).mono ?_); rintro e w' ⟨rfl, ⟨nd, rfl⟩⟩; refine ⟨_, rfl, ?_⟩))
 (try simp only [Act.put, List.setIfInBounds_toArray, List.set_cons_zero, List.set_cons_succ])
 go_cut [3] (fun v3 wc => ∃ (kq : Nat) (x3_3 : List Int), As_ (r3_Reads.j0 kq x3_3 t207 a0_0 a0_1 a0_2 a0_3 a0_4 a0_5 = some r) ∧ As_ (kq ≤ k) ∧ As_ (Kd.R (Kd.int .i64) 3 wc w.heap.size (fun _ => True) v3 x3_3) ∧ As_ (wc.heap[gb206]? = some (.cells #[.int .i64 a0_0, .int .i64 a0_1, .int .i64 a0_2, .int .i64 a0_3, .int .i64 a0_4, .string a0_5] 24 (0, 0))) ∧ As_ (Below w.heap.size w wc))
 case first =>
  have H := HC4.out
  clear HC4
  by_cases c8 : t208 = true
  ·subst c8
   have H1 : (if ([] : List Int).length < 17592186044416 then (r3_Reads.j0 k (([] : List Int) ++ [a0_2]) t207 a0_0 a0_1 a0_2 a0_3 a0_4 a0_5) else (none)) = some r := by rw [if_pos rfl] at H; exact H
   clear H
   have H := H1
   clear H1
   by_cases c9 : ([] : List Int).length < 17592186044416
   ·rw [if_pos c9] at H
    have LMc9 := As_.mk c9
    clear c9
    obtain ⟨y209, hy209⟩ : ∃ y_ : List Int, y_ = (([] : List Int) ++ [a0_2]) := ⟨_, rfl⟩
    replace H : (r3_Reads.j0 k y209 t207 a0_0 a0_1 a0_2 a0_3 a0_4 a0_5) = some r := by first | (rw [hy209]; with_reducible exact H) | (have H2_ := (Option.bind_some _ _).symm.trans H; rw [hy209]; with_reducible exact H2_) | (have H2_ := (Option.bind_some _ _).symm.trans H; with_reducible exact H2_) | with_reducible exact H | (rw [hy209]; exact H) | exact H
    have Ny209 := As_.mk hy209
    clear hy209
    have H' := As_.mk H
    clear H
    have hcz10_0 : w7.cell? ⟨gb206, 0, none⟩ = some (.int .i64 a0_0) := (bC_ BK206.out 0).trans rfl
    have hcz10_1 : w7.cell? ⟨gb206, 1, none⟩ = some (.int .i64 a0_1) := (bC_ BK206.out 1).trans rfl
    have hcz10_2 : w7.cell? ⟨gb206, 2, none⟩ = some (.int .i64 a0_2) := (bC_ BK206.out 2).trans rfl
    have hcz10_3 : w7.cell? ⟨gb206, 3, none⟩ = some (.int .i64 a0_3) := (bC_ BK206.out 3).trans rfl
    have hcz10_4 : w7.cell? ⟨gb206, 4, none⟩ = some (.int .i64 a0_4) := (bC_ BK206.out 4).trans rfl
    have hcz10_5 : w7.cell? ⟨gb206, 5, none⟩ = some (.string a0_5) := (bC_ BK206.out 5).trans rfl
    have hfz10_0 := bZ_ BK206.out 0
    have hfz10_1 := bZ_ BK206.out 1
    have hfz10_2 := bZ_ BK206.out 2
    have hfz10_3 := bZ_ BK206.out 3
    have hfz10_4 := bZ_ BK206.out 4
    have hfz10_5 := bZ_ BK206.out 5
    go_wp2_with (first | ((with_reducible refine gate_builtin (b := .append) (xs := #[.tmp 10, .tmp 13]) rfl ?_); at_builtin; refine Kd.R_append (Kd.int .i64) (w0 := w) w.heap.size rfl (.tmp 10) (.tmp 13) 25 3 (.int .i64 0) 8 rfl Try.underlying25 info3 rfl (by decide) (by omega) (.slice none 0 0) ([] : List Int) a0_2 [.int .i64 a0_2] (fun _ => True) (fun _ => False) rfl rfl ?aP (fun _ hk => hk.elim) ?aF ?aO ?aB ?aS ?aL ?_; (case aP => exact rfl); (case aB => exact (by repeat (first | (with_reducible first | exact HB.out | apply bA_ | apply bN_ | apply b1_ | refine bS_ ?_ GE206.out) | exact HB.out))); (case aF => exact (fun _ _ => trivial)); (case aO => exact ((Kd.R_nil _ _ _ _ (fun _ => True)))); (case aS => exact (bY_ (by repeat (first | (with_reducible first | exact HB.out | apply bA_ | apply bN_ | apply b1_ | refine bS_ ?_ GE206.out) | exact HB.out)))); (case aL => have := LMc9.out; omega); intro v210 w11 ho hb hg hat; rw [← Ny209.out] at ho; have n0_ := As_.mk (blk_grown (g := gb206) (o := .cells #[.int .i64 a0_0, .int .i64 a0_1, .int .i64 a0_2, .int .i64 a0_3, .int .i64 a0_4, .string a0_5] 24 (0, 0)) (by (with_reducible repeat (first | refine kN_ ?_ _ | refine kD_ ?_ | refine kA_ ?_ _)); exact BK206.out) hg (by simp [Value.ownBlock])); have n1_ := As_.mk (hb); have n2_ := As_.mk (ho); clear BK206; clear HB; have BK206 := n0_; have HB := n1_; have HO211 := n2_; clear n0_ n1_ n2_; clear ho hb hg hat))
    go_meet
    case rel => exact ⟨_, (y209), H', ⟨by first | omega | exact Nat.le_refl _⟩, ⟨by (with_reducible repeat (first | apply Kd.R_alloc | apply Kd.R_drewN | apply Kd.R_drew)); exact HO211.out⟩, ⟨by (with_reducible repeat (first | refine kN_ ?_ _ | refine kD_ ?_ | refine kA_ ?_ _)); exact BK206.out⟩, ⟨by repeat (first | (with_reducible first | exact HB.out | apply bA_ | apply bN_ | apply b1_ | refine bS_ ?_ GE206.out) | exact HB.out)⟩⟩
   rw [if_neg c9] at H
   exact absurd H (by simp)
  replace c8 := Bool.eq_false_iff.mpr c8
  subst c8
  have H1 : (r3_Reads.j0 k ([] : List Int) t207 a0_0 a0_1 a0_2 a0_3 a0_4 a0_5) = some r := by rw [if_neg (show ¬ (false = true) by decide)] at H; exact H
  clear H
  have H := H1
  clear H1
  have H' := As_.mk H
  clear H
  go_wp2
  go_meet
  case rel => exact ⟨_, (([] : List Int)), H', ⟨by first | omega | exact Nat.le_refl _⟩, ⟨by first | exact Kd.R_nil _ _ _ _ _ | exact Kd.N_nil _ _ _ _ _ | exact Kd.V_nil _ _ _ _ _ | exact Kd.Q_nil _ _ _ _ _ | exact Kd.S_nil _ _ _ _ _⟩, ⟨by (with_reducible repeat (first | refine kN_ ?_ _ | refine kD_ ?_ | refine kA_ ?_ _)); exact BK206.out⟩, ⟨by repeat (first | (with_reducible first | exact HB.out | apply bA_ | apply bN_ | apply b1_ | refine bS_ ?_ GE206.out) | exact HB.out)⟩⟩
 case rest =>
  clear HC4
  obtain ⟨kq, x3_3, HA, HJ3, HO_3, BK206, HB⟩ := hcut
  cases kq with
  | zero => exact absurd HA.out (by simp [r3_Reads.j0])
  | succ kj3 =>
   have H := HA.out
   clear HA
   simp only [r3_Reads.j0] at H
   replace H := Option.bind_eq_some_iff.mp H
   obtain ⟨t212, A120, H⟩ := H
   replace H : (if t212 = true then (if x3_3.length < 17592186044416 then (some (x3_3 ++ [a0_3])) else (none)) else (some x3_3)) = some r := H
   have A12 := As_.mk A120
   clear A120
   by_cases c13 : t212 = true
   ·subst c13
    have H1 : (if x3_3.length < 17592186044416 then (some (x3_3 ++ [a0_3])) else (none)) = some r := by rw [if_pos rfl] at H; exact H
    clear H
    have H := H1
    clear H1
    by_cases c14 : x3_3.length < 17592186044416
    ·rw [if_pos c14] at H
     have LMc14 := As_.mk c14
     clear c14
     obtain ⟨y213, hy213⟩ : ∃ y_ : List Int, y_ = (x3_3 ++ [a0_3]) := ⟨_, rfl⟩
     replace H : (some y213) = some r := by first | (rw [hy213]; with_reducible exact H) | (have H2_ := (Option.bind_some _ _).symm.trans H; rw [hy213]; with_reducible exact H2_) | (have H2_ := (Option.bind_some _ _).symm.trans H; with_reducible exact H2_) | with_reducible exact H | (rw [hy213]; exact H) | exact H
     have Ny213 := As_.mk hy213
     clear hy213
     obtain rfl := Option.some.inj H
     go_wp2_with (first | ((with_reducible refine gC_ (f := 18) rfl ?_); refine goesL_ (some 16) rfl rfl Try.func18 (by kernel_rfl) rfl #[.int .i64 t207] rfl (by (try simp only [List.map_toArray, List.map_cons, List.map_nil]); first | done | rfl) ?_; (with_reducible refine (r3_HasB.calls t207 true _ A12.out).mono ?_); rintro e w' ⟨rfl, ⟨nd, rfl⟩⟩; refine ⟨_, rfl, ?_⟩; have hcz15_0 : wc.cell? ⟨gb206, 0, none⟩ = some (.int .i64 a0_0) := (bC_ BK206.out 0).trans rfl; have hcz15_1 : wc.cell? ⟨gb206, 1, none⟩ = some (.int .i64 a0_1) := (bC_ BK206.out 1).trans rfl; have hcz15_2 : wc.cell? ⟨gb206, 2, none⟩ = some (.int .i64 a0_2) := (bC_ BK206.out 2).trans rfl; have hcz15_3 : wc.cell? ⟨gb206, 3, none⟩ = some (.int .i64 a0_3) := (bC_ BK206.out 3).trans rfl; have hcz15_4 : wc.cell? ⟨gb206, 4, none⟩ = some (.int .i64 a0_4) := (bC_ BK206.out 4).trans rfl; have hcz15_5 : wc.cell? ⟨gb206, 5, none⟩ = some (.string a0_5) := (bC_ BK206.out 5).trans rfl; have hfz15_0 := bZ_ BK206.out 0; have hfz15_1 := bZ_ BK206.out 1; have hfz15_2 := bZ_ BK206.out 2; have hfz15_3 := bZ_ BK206.out 3; have hfz15_4 := bZ_ BK206.out 4; have hfz15_5 := bZ_ BK206.out 5) | ((with_reducible refine gate_builtin (b := .append) (xs := #[.tmp 17, .tmp 20]) rfl ?_); at_builtin; refine Kd.R_append (Kd.int .i64) (w0 := w) w.heap.size rfl (.tmp 17) (.tmp 20) 25 3 (.int .i64 0) 8 rfl Try.underlying25 info3 rfl (by decide) (by omega) u3 x3_3 a0_3 [.int .i64 a0_3] (fun _ => True) (fun _ => False) rfl rfl ?aP (fun _ hk => hk.elim) ?aF ?aO ?aB ?aS ?aL ?_; (case aP => exact rfl); (case aB => exact (by repeat (first | (with_reducible first | exact HB.out | apply bA_ | apply bN_ | apply b1_ | refine bS_ ?_ GE206.out) | exact HB.out))); (case aF => exact (fun _ _ => trivial)); (case aO => exact (by (with_reducible repeat (first | apply Kd.R_alloc | apply Kd.R_drewN | apply Kd.R_drew)); exact HO_3.out)); (case aS => exact (bY_ (by repeat (first | (with_reducible first | exact HB.out | apply bA_ | apply bN_ | apply b1_ | refine bS_ ?_ GE206.out) | exact HB.out)))); (case aL => have := LMc14.out; omega); intro v214 w16 ho hb hg hat; rw [← Ny213.out] at ho; have n0_ := As_.mk (blk_grown (g := gb206) (o := .cells #[.int .i64 a0_0, .int .i64 a0_1, .int .i64 a0_2, .int .i64 a0_3, .int .i64 a0_4, .string a0_5] 24 (0, 0)) (by (with_reducible repeat (first | refine kN_ ?_ _ | refine kD_ ?_ | refine kA_ ?_ _)); exact BK206.out) hg (Kd.R_ne HO_3.out BK206.out (by decide))); have n1_ := As_.mk (hb); have n2_ := As_.mk (ho); clear BK206; clear HB; clear HO_3; have BK206 := n0_; have HB := n1_; have HO215 := n2_; clear n0_ n1_ n2_; clear ho hb hg hat))
     go_ret
     exact ⟨_, by first | rfl | (simp [eN_, eS_] <;> rfl) | (simp [*, eN_, eS_] <;> rfl), by (with_reducible repeat (first | apply Kd.R_alloc | apply Kd.R_drewN | apply Kd.R_drew)); exact HO215.out, by repeat (first | (with_reducible first | exact HB.out | apply bA_ | apply bN_ | apply b1_ | refine bS_ ?_ GE206.out) | exact HB.out)⟩
    rw [if_neg c14] at H
    exact absurd H (by simp)
   replace c13 := Bool.eq_false_iff.mpr c13
   subst c13
   have H1 : (some x3_3) = some r := by rw [if_neg (show ¬ (false = true) by decide)] at H; exact H
   clear H
   have H := H1
   clear H1
   obtain rfl := Option.some.inj H
   go_wp2_with (first | ((with_reducible refine gC_ (f := 18) rfl ?_); refine goesL_ (some 16) rfl rfl Try.func18 (by kernel_rfl) rfl #[.int .i64 t207] rfl (by (try simp only [List.map_toArray, List.map_cons, List.map_nil]); first | done | rfl) ?_; (with_reducible refine (r3_HasB.calls t207 false _ A12.out).mono ?_); rintro e w' ⟨rfl, ⟨nd, rfl⟩⟩; refine ⟨_, rfl, ?_⟩))
   go_ret
   exact ⟨_, by first | rfl | (simp [eN_, eS_] <;> rfl) | (simp [*, eN_, eS_] <;> rfl), by (with_reducible repeat (first | apply Kd.R_alloc | apply Kd.R_drewN | apply Kd.R_drew)); exact HO_3.out, by repeat (first | (with_reducible first | exact HB.out | apply bA_ | apply bN_ | apply b1_ | refine bS_ ?_ GE206.out) | exact HB.out)⟩
end Go.Proofs.Ytibfkkjkahpobaa.PDag
