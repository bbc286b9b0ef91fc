-- the texts that this claim needs, out of this session's and its print's (wip/shrink.py)
import Derived.Test.YtibfkkjkahpobaaPDagx0L
import Derived.Test.YtibfkkjkahpobaaPDagx3L
import Derived.Test.YtibfkkjkahpobaaPDagx10L
import Derived.Test.YtibfkkjkahpobaaPDagx14L
namespace Go.Proofs.Ytibfkkjkahpobaa.PDag
open Go.RowKit Go.Proofs.YtibfkkjkahpobaaW.PrintWords Go.Proofs.YtibfkkjkahpobaaW.PrintLast Go.Proofs.YtibfkkjkahpobaaW.PrintMore
attribute [local go_sem] max2_int min2_int max_two min_two max_three min_three max_four min_four   -- for this text's walks alone
set_option linter.unusedVariables false
set_option linter.unusedSimpArgs false
def w0_CodesWeight.l0 : Nat → List (S24) → Int → Int → Option (Int)
  | 0, _, _, _ => none
  | k + 1, x0, x3, x4 => if x4 < (x0.length : Int) then (if x3 < 1048576 then (if 0 ≤ x4 then (w0_CodesWeight.l0 k x0 (wrap64 (x3 + (wrap64 ((((q24 x0 x4).f5).size : Int) / 8)))) (wrap64 (x4 + 1))) else (none)) else (some x3)) else (some x3)
def w0_CodesWeight.f (k : Nat) (l0 : List (S24)) : Option (Int) := w0_CodesWeight.l0 k l0 (l0.length : Int) 0
set_option maxHeartbeats 8000000 in
set_option maxRecDepth 100000 in
theorem w0_CodesWeight.calls (k : Nat) (A0 : Option Addr) (c0 : Nat) (l0 : List (S24)) (r : Int) (w : World) (hr0 : Kd.C k24 w A0 l0.length l0) (hc0 : l0.length ≤ c0) (h : w0_CodesWeight.f k l0 = some r) :
    Calls Try.prog 59 #[.slice A0 l0.length c0] w fun e w' => e = .returned (.int .i64 r) ∧ Dr_ w w' := by
 have HR0 := As_.mk hr0
 have HC0 := As_.mk hc0
 clear hr0 hc0
 have H : (w0_CodesWeight.l0 k l0 (l0.length : Int) 0) = some r := h
 clear h
 have H' := As_.mk H
 clear H
 go_enter Try.func59, Try.ntmps59
 go_wp2
 go_loopg [3, 4] k (fun kq v3 v4 w' => ∃ (x3_1 : Int) (x4_1 : Int), v3 = .int .i64 x3_1 ∧ v4 = .int .i64 x4_1 ∧ As_ (w0_CodesWeight.l0 kq l0 x3_1 x4_1 = some r) ∧ As_ (kq ≤ k) ∧ Dr_ w w')
 case atStart => exact ⟨((l0.length : Int)), (0), (by first | rfl | (simp; done) | (simp [*]; done) | (simp [wrap64]; done) | (congr 1; rw [Bool.eq_iff_iff]; simp; done)), (by first | rfl | (simp; done) | (simp [*]; done) | (simp [wrap64]; done) | (congr 1; rw [Bool.eq_iff_iff]; simp; done)), H', ⟨Nat.le_refl _⟩, by repeat (first | exact Dr_.refl _ | apply Dr_.step)⟩
 case round =>
  clear H'
  obtain ⟨x3_1, x4_1, rfl, rfl, HA, HK1, ⟨m1, rfl⟩⟩ := hrel
  cases gk with
  | zero => exact absurd HA.out (by simp [w0_CodesWeight.l0])
  | succ k1 =>
   have H := HA.out
   clear HA
   simp only [w0_CodesWeight.l0] at H
   by_cases c2 : x4_1 < (l0.length : Int)
   ·rw [if_pos c2] at H
    have c2b0 : decide (x4_1 < (l0.length : Int)) = true := decide_eq_true c2
    clear c2
    by_cases c3 : x3_1 < 1048576
    ·rw [if_pos c3] at H
     have c3b0 : decide (x3_1 < 1048576) = true := decide_eq_true c3
     clear c3
     by_cases c4 : 0 ≤ x4_1
     ·rw [if_pos c4] at H
      have c4b0 : decide (0 ≤ x4_1) = true := decide_eq_true c4
      clear c4
      have H' := As_.mk H
      clear H
      have p345 : 0 ≤ (x4_1 : Int) := of_decide_eq_true (by assumption)
      have q345 : x4_1 < (l0.length : Int) := of_decide_eq_true (by assumption)
      obtain ⟨ad345, e345, hx345_0, hx345_1, hx345_2, hx345_3, hx345_4, hx345_5⟩ := at_T24 HR0.out x4_1 p345 q345
      cases e345
      replace p345 := eq_true p345
      replace q345 := eq_true q345
      go_wp2
      go_roundg k1
      case measure => have := HK1.out; omega
      case rel => exact ⟨(wrap64 (x3_1 + (wrap64 ((((q24 l0 x4_1).f5).size : Int) / 8)))), (wrap64 (x4_1 + 1)), (by first | rfl | (simp; done) | (simp [*]; done) | (simp [wrap64]; done) | (congr 1; rw [Bool.eq_iff_iff]; simp; done)), (by first | rfl | (simp; done) | (simp [*]; done) | (simp [wrap64]; done) | (congr 1; rw [Bool.eq_iff_iff]; simp; done)), H', ⟨by have := HK1.out; omega⟩, by repeat (first | exact Dr_.refl _ | apply Dr_.step)⟩
     rw [if_neg c4] at H
     exact absurd H (by simp)
    rw [if_neg c3] at H
    have c3b0 : decide (x3_1 < 1048576) = false := decide_eq_false c3
    clear c3
    obtain rfl := Option.some.inj H
    go_wp2
    go_ret
    exact ⟨by first | rfl | (simp; done) | (simp [*]; done) | (simp [wrap64]; done) | (congr 1; rw [Bool.eq_iff_iff]; simp; done), by repeat (first | exact Dr_.refl _ | apply Dr_.step)⟩
   rw [if_neg c2] at H
   have c2b0 : decide (x4_1 < (l0.length : Int)) = false := decide_eq_false c2
   clear c2
   obtain rfl := Option.some.inj H
   go_wp2
   go_ret
   exact ⟨by first | rfl | (simp; done) | (simp [*]; done) | (simp [wrap64]; done) | (congr 1; rw [Bool.eq_iff_iff]; simp; done), by repeat (first | exact Dr_.refl _ | apply Dr_.step)⟩
def w14_Heavy.f (k : Nat) (l0_0 : List (S24)) (a0_1 : Int) (a0_2 : Int) (a0_3 : Int) (a0_4 : Int) (a0_5 : Int) (a0_6 : ByteArray) (l0_7 : List Int) : Option (Bool) := (w0_CodesWeight.f k l0_0).bind fun t347 => (some (decide ((wrap64 (t347 + (l0_7.length : Int))) > 300)))
set_option maxHeartbeats 8000000 in
set_option maxRecDepth 100000 in
theorem w14_Heavy.calls (k : Nat) (A0_0 : Option Addr) (c0_0 : Nat) (l0_0 : List (S24)) (a0_1 : Int) (a0_2 : Int) (a0_3 : Int) (a0_4 : Int) (a0_5 : Int) (a0_6 : ByteArray) (A0_7 : Option Addr) (c0_7 : Nat) (l0_7 : List Int) (r : Bool) (w : World) (hr0_0 : Kd.C k24 w A0_0 l0_0.length l0_0) (hc0_0 : l0_0.length ≤ c0_0) (hr0_7 : Kd.C (Kd.int .i64) w A0_7 l0_7.length l0_7) (hc0_7 : l0_7.length ≤ c0_7) (h : w14_Heavy.f k l0_0 a0_1 a0_2 a0_3 a0_4 a0_5 a0_6 l0_7 = some r) :
    Calls Try.prog 28 #[.agg #[.slice A0_0 l0_0.length c0_0, .int .i64 a0_1, .int .i64 a0_2, .int .i64 a0_3, .int .i64 a0_4, .int .i64 a0_5, .string a0_6, .slice A0_7 l0_7.length c0_7]] w fun e w' => e = .returned (.bool r) ∧ Below w.heap.size w w' := by
 have hu27 := Try.underlying27
 have HR0_0 := As_.mk hr0_0
 have HC0_0 := As_.mk hc0_0
 clear hr0_0 hc0_0
 have HR0_7 := As_.mk hr0_7
 have HC0_7 := As_.mk hc0_7
 clear hr0_7 hc0_7
 have HB := As_.mk (Below.refl w.heap.size w)
 have H : ((w0_CodesWeight.f k l0_0).bind fun t347 => (some (decide ((wrap64 (t347 + (l0_7.length : Int))) > 300)))) = some r := h
 clear h
 replace H := Option.bind_eq_some_iff.mp H
 obtain ⟨t347, A20, H⟩ := H
 replace H : (some (decide ((wrap64 (t347 + (l0_7.length : Int))) > 300))) = some r := H
 have A2 := As_.mk A20
 clear A20
 obtain rfl := Option.some.inj H
 go_enter Try.func28, Try.ntmps28
 go_wp2_with (first | ((with_reducible refine gate_dst (N := 1) rfl ?_); refine box_event ?hg (N := 1) ?hd (cs := #[.slice A0_0 l0_0.length c0_0, .int .i64 a0_1, .int .i64 a0_2, .int .i64 a0_3, .int .i64 a0_4, .int .i64 a0_5, .string a0_6, .slice A0_7 l0_7.length c0_7]) (t := 27) ?hr ?_; (case hd => rfl); (case hg => rfl); (case hr => first | (go_simp; done) | (go_simp; rfl)); intro gb346 hg w3 hbox hb; have n0_ := As_.mk (bT_ (by repeat (first | (with_reducible first | exact HB.out | apply bA_ | apply bN_ | apply b1_) | exact HB.out)) hb); have n1_ := As_.mk (hbox); have n2_ := As_.mk ((by rw [hg]; exact (bY_ (by repeat (first | (with_reducible first | exact HB.out | apply bA_ | apply bN_ | apply b1_) | exact HB.out))) : w.heap.size ≤ gb346)); have n3_ := As_.mk ((by rw [hg]; exact (bY_ (by repeat (first | (with_reducible first | exact HB.out | apply bA_ | apply bN_ | apply b1_) | exact HB.out))) : w.heap.size ≤ gb346)); clear HB; have HB := n0_; have BK346 := n1_; have GW346 := n2_; have GE346 := n3_; clear n0_ n1_ n2_ n3_; clear hb hbox hg; have hcz4_0 : w3.cell? ⟨gb346, 0, none⟩ = some (.slice A0_0 l0_0.length c0_0) := (bC_ BK346.out 0).trans rfl; have hcz4_1 : w3.cell? ⟨gb346, 1, none⟩ = some (.int .i64 a0_1) := (bC_ BK346.out 1).trans rfl; have hcz4_2 : w3.cell? ⟨gb346, 2, none⟩ = some (.int .i64 a0_2) := (bC_ BK346.out 2).trans rfl; have hcz4_3 : w3.cell? ⟨gb346, 3, none⟩ = some (.int .i64 a0_3) := (bC_ BK346.out 3).trans rfl; have hcz4_4 : w3.cell? ⟨gb346, 4, none⟩ = some (.int .i64 a0_4) := (bC_ BK346.out 4).trans rfl; have hcz4_5 : w3.cell? ⟨gb346, 5, none⟩ = some (.int .i64 a0_5) := (bC_ BK346.out 5).trans rfl; have hcz4_6 : w3.cell? ⟨gb346, 6, none⟩ = some (.string a0_6) := (bC_ BK346.out 6).trans rfl; have hcz4_7 : w3.cell? ⟨gb346, 7, none⟩ = some (.slice A0_7 l0_7.length c0_7) := (bC_ BK346.out 7).trans rfl; have hfz4_0 := bZ_ BK346.out 0; have hfz4_1 := bZ_ BK346.out 1; have hfz4_2 := bZ_ BK346.out 2; have hfz4_3 := bZ_ BK346.out 3; have hfz4_4 := bZ_ BK346.out 4; have hfz4_5 := bZ_ BK346.out 5; have hfz4_6 := bZ_ BK346.out 6; have hfz4_7 := bZ_ BK346.out 7) | (go_at_call 59; (with_reducible refine (w0_CodesWeight.calls k _ _ l0_0 t347 _ ?side1 ?side2 A2.out).mono ?_); (case side1 => repeat (first | exact (Kd.C_below HR0_0.out HB.out) | (with_reducible refine Kd.C_alloc ?_ _) | (with_reducible refine Kd.C_drewN ?_ _) | (with_reducible refine Kd.C_drew ?_))); (case side2 => exact HC0_0.out); rintro e w' ⟨rfl, ⟨nd, rfl⟩⟩; (try first | exact ⟨rfl, _, World.drewN_drewN _ _ _⟩ | exact ⟨rfl, _, Eq.trans (World.drewN_drewN _ _ _) (congrArg (World.drewN _) (Nat.add_assoc _ _ _))⟩)))
 repeat (go_quiet (first | ((with_reducible refine gate_dst (N := 1) rfl ?_); refine box_event ?hg (N := 1) ?hd (cs := #[.slice A0_0 l0_0.length c0_0, .int .i64 a0_1, .int .i64 a0_2, .int .i64 a0_3, .int .i64 a0_4, .int .i64 a0_5, .string a0_6, .slice A0_7 l0_7.length c0_7]) (t := 27) ?hr ?_; (case hd => rfl); (case hg => rfl); (case hr => first | (go_simp; done) | (go_simp; rfl)); intro gb346 hg w3 hbox hb; have n0_ := As_.mk (bT_ (by repeat (first | (with_reducible first | exact HB.out | apply bA_ | apply bN_ | apply b1_) | exact HB.out)) hb); have n1_ := As_.mk (hbox); have n2_ := As_.mk ((by rw [hg]; exact (bY_ (by repeat (first | (with_reducible first | exact HB.out | apply bA_ | apply bN_ | apply b1_) | exact HB.out))) : w.heap.size ≤ gb346)); have n3_ := As_.mk ((by rw [hg]; exact (bY_ (by repeat (first | (with_reducible first | exact HB.out | apply bA_ | apply bN_ | apply b1_) | exact HB.out))) : w.heap.size ≤ gb346)); clear HB; have HB := n0_; have BK346 := n1_; have GW346 := n2_; have GE346 := n3_; clear n0_ n1_ n2_ n3_; clear hb hbox hg; have hcz4_0 : w3.cell? ⟨gb346, 0, none⟩ = some (.slice A0_0 l0_0.length c0_0) := (bC_ BK346.out 0).trans rfl; have hcz4_1 : w3.cell? ⟨gb346, 1, none⟩ = some (.int .i64 a0_1) := (bC_ BK346.out 1).trans rfl; have hcz4_2 : w3.cell? ⟨gb346, 2, none⟩ = some (.int .i64 a0_2) := (bC_ BK346.out 2).trans rfl; have hcz4_3 : w3.cell? ⟨gb346, 3, none⟩ = some (.int .i64 a0_3) := (bC_ BK346.out 3).trans rfl; have hcz4_4 : w3.cell? ⟨gb346, 4, none⟩ = some (.int .i64 a0_4) := (bC_ BK346.out 4).trans rfl; have hcz4_5 : w3.cell? ⟨gb346, 5, none⟩ = some (.int .i64 a0_5) := (bC_ BK346.out 5).trans rfl; have hcz4_6 : w3.cell? ⟨gb346, 6, none⟩ = some (.string a0_6) := (bC_ BK346.out 6).trans rfl; have hcz4_7 : w3.cell? ⟨gb346, 7, none⟩ = some (.slice A0_7 l0_7.length c0_7) := (bC_ BK346.out 7).trans rfl; have hfz4_0 := bZ_ BK346.out 0; have hfz4_1 := bZ_ BK346.out 1; have hfz4_2 := bZ_ BK346.out 2; have hfz4_3 := bZ_ BK346.out 3; have hfz4_4 := bZ_ BK346.out 4; have hfz4_5 := bZ_ BK346.out 5; have hfz4_6 := bZ_ BK346.out 6; have hfz4_7 := bZ_ BK346.out 7) | (go_at_call 59; (with_reducible refine (w0_CodesWeight.calls k _ _ l0_0 t347 _ ?side1 ?side2 A2.out).mono ?_); (case side1 => repeat (first | exact (Kd.C_below HR0_0.out HB.out) | (with_reducible refine Kd.C_alloc ?_ _) | (with_reducible refine Kd.C_drewN ?_ _) | (with_reducible refine Kd.C_drew ?_))); (case side2 => exact HC0_0.out); rintro e w' ⟨rfl, ⟨nd, rfl⟩⟩; (try first | exact ⟨rfl, _, World.drewN_drewN _ _ _⟩ | exact ⟨rfl, _, Eq.trans (World.drewN_drewN _ _ _) (congrArg (World.drewN _) (Nat.add_assoc _ _ _))⟩))); try go_wp2_with (first | ((with_reducible refine gate_dst (N := 1) rfl ?_); refine box_event ?hg (N := 1) ?hd (cs := #[.slice A0_0 l0_0.length c0_0, .int .i64 a0_1, .int .i64 a0_2, .int .i64 a0_3, .int .i64 a0_4, .int .i64 a0_5, .string a0_6, .slice A0_7 l0_7.length c0_7]) (t := 27) ?hr ?_; (case hd => rfl); (case hg => rfl); (case hr => first | (go_simp; done) | (go_simp; rfl)); intro gb346 hg w3 hbox hb; have n0_ := As_.mk (bT_ (by repeat (first | (with_reducible first | exact HB.out | apply bA_ | apply bN_ | apply b1_) | exact HB.out)) hb); have n1_ := As_.mk (hbox); have n2_ := As_.mk ((by rw [hg]; exact (bY_ (by repeat (first | (with_reducible first | exact HB.out | apply bA_ | apply bN_ | apply b1_) | exact HB.out))) : w.heap.size ≤ gb346)); have n3_ := As_.mk ((by rw [hg]; exact (bY_ (by repeat (first | (with_reducible first | exact HB.out | apply bA_ | apply bN_ | apply b1_) | exact HB.out))) : w.heap.size ≤ gb346)); clear HB; have HB := n0_; have BK346 := n1_; have GW346 := n2_; have GE346 := n3_; clear n0_ n1_ n2_ n3_; clear hb hbox hg; have hcz4_0 : w3.cell? ⟨gb346, 0, none⟩ = some (.slice A0_0 l0_0.length c0_0) := (bC_ BK346.out 0).trans rfl; have hcz4_1 : w3.cell? ⟨gb346, 1, none⟩ = some (.int .i64 a0_1) := (bC_ BK346.out 1).trans rfl; have hcz4_2 : w3.cell? ⟨gb346, 2, none⟩ = some (.int .i64 a0_2) := (bC_ BK346.out 2).trans rfl; have hcz4_3 : w3.cell? ⟨gb346, 3, none⟩ = some (.int .i64 a0_3) := (bC_ BK346.out 3).trans rfl; have hcz4_4 : w3.cell? ⟨gb346, 4, none⟩ = some (.int .i64 a0_4) := (bC_ BK346.out 4).trans rfl; have hcz4_5 : w3.cell? ⟨gb346, 5, none⟩ = some (.int .i64 a0_5) := (bC_ BK346.out 5).trans rfl; have hcz4_6 : w3.cell? ⟨gb346, 6, none⟩ = some (.string a0_6) := (bC_ BK346.out 6).trans rfl; have hcz4_7 : w3.cell? ⟨gb346, 7, none⟩ = some (.slice A0_7 l0_7.length c0_7) := (bC_ BK346.out 7).trans rfl; have hfz4_0 := bZ_ BK346.out 0; have hfz4_1 := bZ_ BK346.out 1; have hfz4_2 := bZ_ BK346.out 2; have hfz4_3 := bZ_ BK346.out 3; have hfz4_4 := bZ_ BK346.out 4; have hfz4_5 := bZ_ BK346.out 5; have hfz4_6 := bZ_ BK346.out 6; have hfz4_7 := bZ_ BK346.out 7) | (go_at_call 59; (with_reducible refine (w0_CodesWeight.calls k _ _ l0_0 t347 _ ?side1 ?side2 A2.out).mono ?_); (case side1 => repeat (first | exact (Kd.C_below HR0_0.out HB.out) | (with_reducible refine Kd.C_alloc ?_ _) | (with_reducible refine Kd.C_drewN ?_ _) | (with_reducible refine Kd.C_drew ?_))); (case side2 => exact HC0_0.out); rintro e w' ⟨rfl, ⟨nd, rfl⟩⟩; (try first | exact ⟨rfl, _, World.drewN_drewN _ _ _⟩ | exact ⟨rfl, _, Eq.trans (World.drewN_drewN _ _ _) (congrArg (World.drewN _) (Nat.add_assoc _ _ _))⟩))))
 go_ret
 exact ⟨by first | rfl | (simp [eN_, eS_] <;> rfl) | (simp [*, eN_, eS_] <;> rfl), by repeat (first | (with_reducible first | exact HB.out | apply bA_ | apply bN_ | apply b1_ | refine bS_ ?_ GE346.out) | exact HB.out)⟩
def r0_Num.f (a0 : Int) (a1 : Int) : Option (Bool) := if a0 ≥ 0 then (some (decide (a0 ≤ a1))) else (some false)
set_option maxHeartbeats 8000000 in
set_option maxRecDepth 100000 in
theorem r0_Num.calls (a0 : Int) (a1 : Int) (r : Bool) (w : World) (h : r0_Num.f a0 a1 = some r) :
    Calls Try.prog 35 #[.int .i64 a0, .int .i64 a1] w fun e w' => e = .returned (.bool r) ∧ Dr_ w w' := by
 have H : (if a0 ≥ 0 then (some (decide (a0 ≤ a1))) else (some false)) = some r := h
 clear h
 by_cases c3 : a0 ≥ 0
 ·rw [if_pos c3] at H
  have c3b0 : decide (0 ≤ a0) = true := decide_eq_true c3
  clear c3
  obtain rfl := Option.some.inj H
  go_enter Try.func35, Try.ntmps35
  go_wp2
  go_ret
  exact ⟨by first | rfl | (simp; done) | (simp [*]; done) | (simp [wrap64]; done) | (congr 1; rw [Bool.eq_iff_iff]; simp; done), by repeat (first | exact Dr_.refl _ | apply Dr_.step)⟩
 rw [if_neg c3] at H
 have c3b0 : decide (0 ≤ a0) = false := decide_eq_false c3
 clear c3
 obtain rfl := Option.some.inj H
 go_enter Try.func35, Try.ntmps35
 go_wp2
 go_ret
 exact ⟨by first | rfl | (simp; done) | (simp [*]; done) | (simp [wrap64]; done) | (congr 1; rw [Bool.eq_iff_iff]; simp; done), by repeat (first | exact Dr_.refl _ | apply Dr_.step)⟩
def r3_Target.f (a0 : Int) : Option (Bool) := if a0 = 8 then (some true) else (some (a0 == 9))
set_option maxHeartbeats 8000000 in
set_option maxRecDepth 100000 in
theorem r3_Target.calls (a0 : Int) (r : Bool) (w : World) (h : r3_Target.f a0 = some r) :
    Calls Try.prog 43 #[.int .i64 a0] w fun e w' => e = .returned (.bool r) ∧ Dr_ w w' := by
 have H : (if a0 = 8 then (some true) else (some (a0 == 9))) = some r := h
 clear h
 by_cases c2 : a0 = 8
 ·rw [if_pos c2] at H
  have c2b0 : (a0 == 8) = true := beq_iff_eq.mpr c2
  have c2b1 : (a0 != 8) = false := bne_eq_false_iff_eq.mpr c2
  clear c2
  obtain rfl := Option.some.inj H
  go_enter Try.func43, Try.ntmps43
  go_wp2
  go_ret
  exact ⟨by first | rfl | (simp; done) | (simp [*]; done) | (simp [wrap64]; done) | (congr 1; rw [Bool.eq_iff_iff]; simp; done), by repeat (first | exact Dr_.refl _ | apply Dr_.step)⟩
 rw [if_neg c2] at H
 have c2b0 : (a0 == 8) = false := beq_eq_false_iff_ne.mpr c2
 have c2b1 : (a0 != 8) = true := bne_iff_ne.mpr c2
 obtain rfl := Option.some.inj H
 go_enter Try.func43, Try.ntmps43
 go_wp2
 go_ret
 exact ⟨by first | rfl | (simp; done) | (simp [*]; done) | (simp [wrap64]; done) | (congr 1; rw [Bool.eq_iff_iff]; simp; done), by repeat (first | exact Dr_.refl _ | apply Dr_.step)⟩
def r3_Valid.f (a0 : Int) : Option (Bool) := (r0_Between.f a0 0 33).bind fun t348 => (some t348)
set_option maxHeartbeats 8000000 in
set_option maxRecDepth 100000 in
theorem r3_Valid.calls (a0 : Int) (r : Bool) (w : World) (h : r3_Valid.f a0 = some r) :
    Calls Try.prog 66 #[.int .i64 a0] w fun e w' => e = .returned (.bool r) ∧ Dr_ w w' := by
 have H : ((r0_Between.f a0 0 33).bind fun t348 => (some t348)) = some r := h
 clear h
 replace H := Option.bind_eq_some_iff.mp H
 obtain ⟨t348, A20, H⟩ := H
 replace H : (some t348) = some r := H
 have A2 := As_.mk A20
 clear A20
 obtain rfl := Option.some.inj H
 go_enter Try.func66, Try.ntmps66
 go_wp2_with (first | ((with_reducible refine gC_ (f := 54) rfl ?_); refine goesL_ (some 4) rfl rfl Try.func54 (by kernel_rfl) rfl #[.int .i64 a0, .int .i64 0, .int .i64 33] rfl (by (try simp only [List.map_toArray, List.map_cons, List.map_nil]); first | done | rfl) ?_; (with_reducible refine (r0_Between.calls a0 0 33 t348 _ A2.out).mono ?_); rintro e w' ⟨rfl, ⟨nd, rfl⟩⟩; refine ⟨_, rfl, ?_⟩))
 go_ret
 exact ⟨by first | rfl | (simp; done) | (simp [*]; done) | (simp [wrap64]; done) | (congr 1; rw [Bool.eq_iff_iff]; simp; done), by repeat (first | exact Dr_.refl _ | apply Dr_.step)⟩
def r3_reg.f (a0 : Int) (a1 : Bool) : Option (Bool) := if a1 = true then ((r0_Num.f a0 15).bind fun t349 => (some t349)) else (some (a0 == 0))
set_option maxHeartbeats 8000000 in
set_option maxRecDepth 100000 in
theorem r3_reg.calls (a0 : Int) (a1 : Bool) (r : Bool) (w : World) (h : r3_reg.f a0 a1 = some r) :
    Calls Try.prog 67 #[.int .i64 a0, .bool a1] w fun e w' => e = .returned (.bool r) ∧ Dr_ w w' := by
 have H : (if a1 = true then ((r0_Num.f a0 15).bind fun t349 => (some t349)) else (some (a0 == 0))) = some r := h
 clear h
 by_cases c3 : a1 = true
 ·subst c3
  have H1 : ((r0_Num.f a0 15).bind fun t349 => (some t349)) = some r := by rw [if_pos rfl] at H; exact H
  clear H
  have H := H1
  clear H1
  replace H := Option.bind_eq_some_iff.mp H
  obtain ⟨t349, A40, H⟩ := H
  replace H : (some t349) = some r := H
  have A4 := As_.mk A40
  clear A40
  obtain rfl := Option.some.inj H
  go_enter Try.func67, Try.ntmps67
  go_wp2_with (first | ((with_reducible refine gC_ (f := 35) rfl ?_); refine goesL_ (some 7) rfl rfl Try.func35 (by kernel_rfl) rfl #[.int .i64 a0, .int .i64 15] rfl (by (try simp only [List.map_toArray, List.map_cons, List.map_nil]); first | done | rfl) ?_; (with_reducible refine (r0_Num.calls a0 15 t349 _ A4.out).mono ?_); rintro e w' ⟨rfl, ⟨nd, rfl⟩⟩; refine ⟨_, rfl, ?_⟩))
  go_ret
  exact ⟨by first | rfl | (simp; done) | (simp [*]; done) | (simp [wrap64]; done) | (congr 1; rw [Bool.eq_iff_iff]; simp; done), by repeat (first | exact Dr_.refl _ | apply Dr_.step)⟩
 replace c3 := Bool.eq_false_iff.mpr c3
 subst c3
 have H1 : (some (a0 == 0)) = some r := by rw [if_neg (show ¬ (false = true) by decide)] at H; exact H
 clear H
 have H := H1
 clear H1
 obtain rfl := Option.some.inj H
 go_enter Try.func67, Try.ntmps67
 go_wp2
 go_ret
 exact ⟨by first | rfl | (simp; done) | (simp [*]; done) | (simp [wrap64]; done) | (congr 1; rw [Bool.eq_iff_iff]; simp; done), by repeat (first | exact Dr_.refl _ | apply Dr_.step)⟩
end Go.Proofs.Ytibfkkjkahpobaa.PDag
