-- the texts that this claim needs, out of this session's and its print's (wip/shrink.py)
import Derived.Test.YtfnchdlgkkdegaaPAllx0T
namespace Go.Proofs.Ytfnchdlgkkdegaa.PAll
open Go.RowKit Go.Proofs.YtfnchdlgkkdegaaW.PrintWords Go.Proofs.YtfnchdlgkkdegaaW.PrintLast Go.Proofs.YtfnchdlgkkdegaaW.PrintMore
attribute [local go_sem] max2_int min2_int max_two min_two max_three min_three max_four min_four   -- for this text's walks alone
set_option linter.unusedVariables false
set_option linter.unusedSimpArgs false
def isa_Is.f (a0 : Int) : Option (Bool) := if a0 ≥ 0 then (some (decide (a0 ≤ 33))) else (some false)
set_option maxHeartbeats 8000000 in
set_option maxRecDepth 100000 in
theorem isa_Is.calls (a0 : Int) (r : Bool) (w : World) (h : isa_Is.f a0 = some r) :
    Calls Try.prog 35 #[.int .i64 a0] w fun e w' => e = .returned (.bool r) ∧ Dr_ w w' := by
 have H : (if a0 ≥ 0 then (some (decide (a0 ≤ 33))) else (some false)) = some r := h
 clear h
 by_cases c2 : a0 ≥ 0
 ·rw [if_pos c2] at H
  have c2b0 : decide (0 ≤ a0) = true := decide_eq_true c2
  clear c2
  obtain rfl := Option.some.inj H
  go_enter Try.func35, Try.ntmps35
  go_wp2
  go_ret
  exact ⟨by first | rfl | (simp; done) | (simp [*]; done) | (simp [wrap64]; done) | (congr 1; rw [Bool.eq_iff_iff]; simp; done), by repeat (first | exact Dr_.refl _ | apply Dr_.step)⟩
 rw [if_neg c2] at H
 have c2b0 : decide (0 ≤ a0) = false := decide_eq_false c2
 clear c2
 obtain rfl := Option.some.inj H
 go_enter Try.func35, Try.ntmps35
 go_wp2
 go_ret
 exact ⟨by first | rfl | (simp; done) | (simp [*]; done) | (simp [wrap64]; done) | (congr 1; rw [Bool.eq_iff_iff]; simp; done), by repeat (first | exact Dr_.refl _ | apply Dr_.step)⟩
mutual
def isa_Shape.j0 : Nat → Int → Bool → Option (Int)
  | 0, _, _ => none
  | k + 1, x3, x6 => if x6 = true then (some 3) else (if x3 = 23 then (some 4) else (if x3 = 25 then (some 5) else (if x3 = 26 then (some 6) else (if x3 = 27 then (some 7) else (if x3 = 28 then (isa_Shape.j1 k x3 (x3 == 28)) else (isa_Shape.j1 k x3 (x3 == 31)))))))
def isa_Shape.j1 : Nat → Int → Bool → Option (Int)
  | 0, _, _ => none
  | k + 1, x3, x17 => if x17 = true then (some 8) else (if x3 = 29 then (isa_Shape.j2 k x3 (x3 == 29)) else (isa_Shape.j2 k x3 (x3 == 30)))
def isa_Shape.j2 : Nat → Int → Bool → Option (Int)
  | 0, _, _ => none
  | k + 1, x3, x20 => if x20 = true then (some 9) else (if x3 = 0 then (isa_Shape.j3 k (x3 == 0)) else (if x3 = 32 then (isa_Shape.j3 k (x3 == 32)) else (isa_Shape.j3 k (x3 == 33))))
def isa_Shape.j3 : Nat → Bool → Option (Int)
  | 0, _ => none
  | k + 1, x23 => if x23 = true then (some 0) else (some 1)
end
def isa_Shape.f (k : Nat) (a0 : Int) : Option (Int) := if a0 = 21 then (some 2) else (if a0 = 22 then (isa_Shape.j0 k a0 (a0 == 22)) else (isa_Shape.j0 k a0 (a0 == 24)))
theorem isa_Shape.mono_l : ∀ k, (∀ y0 y1, LeO (isa_Shape.j0 k y0 y1) (isa_Shape.j0 (k + 1) y0 y1)) ∧ (∀ y0 y1, LeO (isa_Shape.j1 k y0 y1) (isa_Shape.j1 (k + 1) y0 y1)) ∧ (∀ y0 y1, LeO (isa_Shape.j2 k y0 y1) (isa_Shape.j2 (k + 1) y0 y1)) ∧ (∀ y0, LeO (isa_Shape.j3 k y0) (isa_Shape.j3 (k + 1) y0))
  | 0 => ⟨fun _ _ r h => by simp [isa_Shape.j0] at h, fun _ _ r h => by simp [isa_Shape.j1] at h, fun _ _ r h => by simp [isa_Shape.j2] at h, fun _ r h => by simp [isa_Shape.j3] at h⟩
  | k + 1 => by
    obtain ⟨ih0, ih1, ih2, ih3⟩ := isa_Shape.mono_l k
    refine ⟨?_, ?_, ?_, ?_⟩
    · intro y0 y1
      unfold isa_Shape.j0
      repeat' first
      | (with_reducible exact ih0 _ _)
      | (with_reducible exact ih1 _ _)
      | (with_reducible exact ih2 _ _)
      | (with_reducible exact ih3 _)
      | (with_reducible exact LeO.refl _)
      | (with_reducible exact LeO.none _)
      | (with_reducible refine LeO.ite ?_ ?_)
      | (with_reducible refine LeO.bind ?_ (fun _ => ?_))
      | exact LeO.none _
      | refine LeO.ite ?_ ?_
      | refine LeO.bind ?_ (fun _ => ?_)
    · intro y0 y1
      unfold isa_Shape.j1
      repeat' first
      | (with_reducible exact ih0 _ _)
      | (with_reducible exact ih1 _ _)
      | (with_reducible exact ih2 _ _)
      | (with_reducible exact ih3 _)
      | (with_reducible exact LeO.refl _)
      | (with_reducible exact LeO.none _)
      | (with_reducible refine LeO.ite ?_ ?_)
      | (with_reducible refine LeO.bind ?_ (fun _ => ?_))
      | exact LeO.none _
      | refine LeO.ite ?_ ?_
      | refine LeO.bind ?_ (fun _ => ?_)
    · intro y0 y1
      unfold isa_Shape.j2
      repeat' first
      | (with_reducible exact ih0 _ _)
      | (with_reducible exact ih1 _ _)
      | (with_reducible exact ih2 _ _)
      | (with_reducible exact ih3 _)
      | (with_reducible exact LeO.refl _)
      | (with_reducible exact LeO.none _)
      | (with_reducible refine LeO.ite ?_ ?_)
      | (with_reducible refine LeO.bind ?_ (fun _ => ?_))
      | exact LeO.none _
      | refine LeO.ite ?_ ?_
      | refine LeO.bind ?_ (fun _ => ?_)
    · intro y0
      unfold isa_Shape.j3
      repeat' first
      | (with_reducible exact ih0 _ _)
      | (with_reducible exact ih1 _ _)
      | (with_reducible exact ih2 _ _)
      | (with_reducible exact ih3 _)
      | (with_reducible exact LeO.refl _)
      | (with_reducible exact LeO.none _)
      | (with_reducible refine LeO.ite ?_ ?_)
      | (with_reducible refine LeO.bind ?_ (fun _ => ?_))
      | exact LeO.none _
      | refine LeO.ite ?_ ?_
      | refine LeO.bind ?_ (fun _ => ?_)
theorem isa_Shape.mono : ∀ a0 k, LeO (isa_Shape.f k a0) (isa_Shape.f (k + 1) a0) := by
 intro a0 k
 obtain ⟨ih0, ih1, ih2, ih3⟩ := isa_Shape.mono_l k
 unfold isa_Shape.f
 repeat' first
  | (with_reducible exact ih0 _ _)
  | (with_reducible exact ih1 _ _)
  | (with_reducible exact ih2 _ _)
  | (with_reducible exact ih3 _)
  | (with_reducible exact LeO.refl _)
  | (with_reducible exact LeO.none _)
  | (with_reducible refine LeO.ite ?_ ?_)
  | (with_reducible refine LeO.bind ?_ (fun _ => ?_))
  | exact LeO.none _
  | refine LeO.ite ?_ ?_
  | refine LeO.bind ?_ (fun _ => ?_)
set_option maxHeartbeats 8000000 in
set_option maxRecDepth 100000 in
theorem isa_Shape.calls (k : Nat) (a0 : Int) (r : Int) (w : World) (h : isa_Shape.f k a0 = some r) :
    Calls Try.prog 36 #[.int .i64 a0] w fun e w' => e = .returned (.int .i64 r) ∧ Dr_ w w' := by
 have H : (if a0 = 21 then (some 2) else (if a0 = 22 then (isa_Shape.j0 k a0 (a0 == 22)) else (isa_Shape.j0 k a0 (a0 == 24)))) = some r := h
 clear h
 by_cases c2 : a0 = 21
 ·rw [if_pos c2] at H
  have c2b0 : (a0 == 21) = true := beq_iff_eq.mpr c2
  have c2b1 : (a0 != 21) = false := bne_eq_false_iff_eq.mpr c2
  clear c2
  obtain rfl := Option.some.inj H
  go_enter Try.func36, Try.ntmps36
  go_wp2
  go_ret
  exact ⟨by first | rfl | (simp; done) | (simp [*]; done) | (simp [wrap64]; done) | (congr 1; rw [Bool.eq_iff_iff]; simp; done), by repeat (first | exact Dr_.refl _ | apply Dr_.step)⟩
 rw [if_neg c2] at H
 have c2b0 : (a0 == 21) = false := beq_eq_false_iff_ne.mpr c2
 have c2b1 : (a0 != 21) = true := bne_iff_ne.mpr c2
 have HC3 := As_.mk H
 clear H
 go_enter Try.func36, Try.ntmps36
 go_upto_if 6 with (fail)
 go_cut [6] (fun v6 wc => ∃ (kq : Nat) (x6_2 : Bool), v6 = .bool x6_2 ∧ As_ (isa_Shape.j0 kq a0 x6_2 = some r) ∧ As_ (kq ≤ k) ∧ Dr_ w wc)
 case first =>
  have H := HC3.out
  clear HC3
  by_cases c4 : a0 = 22
  ·rw [if_pos c4] at H
   have c4b0 : (a0 == 22) = true := beq_iff_eq.mpr c4
   have c4b1 : (a0 != 22) = false := bne_eq_false_iff_eq.mpr c4
   clear c4
   (first | rw [c4b0] | (simp only [i64_w, i32_w]; rw [c4b0]) | skip)
   have H' := As_.mk H
   clear H
   go_wp2
   go_meet
   case rel => exact ⟨_, ((a0 == 22)), (by first | rfl | (simp; done) | (simp [*]; done) | (simp [wrap64]; done) | (congr 1; rw [Bool.eq_iff_iff]; simp; done)), H', ⟨by first | omega | exact Nat.le_refl _⟩, by repeat (first | exact Dr_.refl _ | apply Dr_.step)⟩
  rw [if_neg c4] at H
  have c4b0 : (a0 == 22) = false := beq_eq_false_iff_ne.mpr c4
  have c4b1 : (a0 != 22) = true := bne_iff_ne.mpr c4
  (first | rw [c4b0] | (simp only [i64_w, i32_w]; rw [c4b0]) | skip)
  have H' := As_.mk H
  clear H
  go_wp2
  go_meet
  case rel => exact ⟨_, ((a0 == 24)), (by first | rfl | (simp; done) | (simp [*]; done) | (simp [wrap64]; done) | (congr 1; rw [Bool.eq_iff_iff]; simp; done)), H', ⟨by first | omega | exact Nat.le_refl _⟩, by repeat (first | exact Dr_.refl _ | apply Dr_.step)⟩
 case rest =>
  clear HC3
  obtain ⟨kq, x6_2, rfl, HA, HJ2, ⟨mc2, rfl⟩⟩ := hcut
  cases kq with
  | zero => exact absurd HA.out (by simp [isa_Shape.j0])
  | succ kj2 =>
   have H := HA.out
   clear HA
   simp only [isa_Shape.j0] at H
   by_cases c5 : x6_2 = true
   ·subst c5
    have H1 : (some 3) = some r := by rw [if_pos rfl] at H; exact H
    clear H
    have H := H1
    clear H1
    obtain rfl := Option.some.inj H
    go_wp2
    go_ret
    exact ⟨by first | rfl | (simp; done) | (simp [*]; done) | (simp [wrap64]; done) | (congr 1; rw [Bool.eq_iff_iff]; simp; done), by repeat (first | exact Dr_.refl _ | apply Dr_.step)⟩
   replace c5 := Bool.eq_false_iff.mpr c5
   subst c5
   have H1 : (if a0 = 23 then (some 4) else (if a0 = 25 then (some 5) else (if a0 = 26 then (some 6) else (if a0 = 27 then (some 7) else (if a0 = 28 then (isa_Shape.j1 kj2 a0 (a0 == 28)) else (isa_Shape.j1 kj2 a0 (a0 == 31))))))) = some r := by rw [if_neg (show ¬ (false = true) by decide)] at H; exact H
   clear H
   have H := H1
   clear H1
   by_cases c6 : a0 = 23
   ·rw [if_pos c6] at H
    have c6b0 : (a0 == 23) = true := beq_iff_eq.mpr c6
    have c6b1 : (a0 != 23) = false := bne_eq_false_iff_eq.mpr c6
    clear c6
    obtain rfl := Option.some.inj H
    go_wp2
    go_ret
    exact ⟨by first | rfl | (simp; done) | (simp [*]; done) | (simp [wrap64]; done) | (congr 1; rw [Bool.eq_iff_iff]; simp; done), by repeat (first | exact Dr_.refl _ | apply Dr_.step)⟩
   rw [if_neg c6] at H
   have c6b0 : (a0 == 23) = false := beq_eq_false_iff_ne.mpr c6
   have c6b1 : (a0 != 23) = true := bne_iff_ne.mpr c6
   by_cases c7 : a0 = 25
   ·rw [if_pos c7] at H
    have c7b0 : (a0 == 25) = true := beq_iff_eq.mpr c7
    have c7b1 : (a0 != 25) = false := bne_eq_false_iff_eq.mpr c7
    clear c7
    obtain rfl := Option.some.inj H
    go_wp2
    go_ret
    exact ⟨by first | rfl | (simp; done) | (simp [*]; done) | (simp [wrap64]; done) | (congr 1; rw [Bool.eq_iff_iff]; simp; done), by repeat (first | exact Dr_.refl _ | apply Dr_.step)⟩
   rw [if_neg c7] at H
   have c7b0 : (a0 == 25) = false := beq_eq_false_iff_ne.mpr c7
   have c7b1 : (a0 != 25) = true := bne_iff_ne.mpr c7
   by_cases c8 : a0 = 26
   ·rw [if_pos c8] at H
    have c8b0 : (a0 == 26) = true := beq_iff_eq.mpr c8
    have c8b1 : (a0 != 26) = false := bne_eq_false_iff_eq.mpr c8
    clear c8
    obtain rfl := Option.some.inj H
    go_wp2
    go_ret
    exact ⟨by first | rfl | (simp; done) | (simp [*]; done) | (simp [wrap64]; done) | (congr 1; rw [Bool.eq_iff_iff]; simp; done), by repeat (first | exact Dr_.refl _ | apply Dr_.step)⟩
   rw [if_neg c8] at H
   have c8b0 : (a0 == 26) = false := beq_eq_false_iff_ne.mpr c8
   have c8b1 : (a0 != 26) = true := bne_iff_ne.mpr c8
   by_cases c9 : a0 = 27
   ·rw [if_pos c9] at H
    have c9b0 : (a0 == 27) = true := beq_iff_eq.mpr c9
    have c9b1 : (a0 != 27) = false := bne_eq_false_iff_eq.mpr c9
    clear c9
    obtain rfl := Option.some.inj H
    go_wp2
    go_ret
    exact ⟨by first | rfl | (simp; done) | (simp [*]; done) | (simp [wrap64]; done) | (congr 1; rw [Bool.eq_iff_iff]; simp; done), by repeat (first | exact Dr_.refl _ | apply Dr_.step)⟩
   rw [if_neg c9] at H
   have c9b0 : (a0 == 27) = false := beq_eq_false_iff_ne.mpr c9
   have c9b1 : (a0 != 27) = true := bne_iff_ne.mpr c9
   have HC10 := As_.mk H
   clear H
   go_upto_if 17 with (fail)
   go_cut [17] (fun v17 wc => ∃ (kq : Nat) (x17_9 : Bool), v17 = .bool x17_9 ∧ As_ (isa_Shape.j1 kq a0 x17_9 = some r) ∧ As_ (kq ≤ kj2) ∧ Dr_ w wc)
   case first =>
    have H := HC10.out
    clear HC10
    by_cases c11 : a0 = 28
    ·rw [if_pos c11] at H
     have c11b0 : (a0 == 28) = true := beq_iff_eq.mpr c11
     have c11b1 : (a0 != 28) = false := bne_eq_false_iff_eq.mpr c11
     clear c11
     (first | rw [c11b0] | (simp only [i64_w, i32_w]; rw [c11b0]) | skip)
     have H' := As_.mk H
     clear H
     go_wp2
     go_meet
     case rel => exact ⟨_, ((a0 == 28)), (by first | rfl | (simp; done) | (simp [*]; done) | (simp [wrap64]; done) | (congr 1; rw [Bool.eq_iff_iff]; simp; done)), H', ⟨by have := HJ2.out; first | omega | exact Nat.le_refl _⟩, by repeat (first | exact Dr_.refl _ | apply Dr_.step)⟩
    rw [if_neg c11] at H
    have c11b0 : (a0 == 28) = false := beq_eq_false_iff_ne.mpr c11
    have c11b1 : (a0 != 28) = true := bne_iff_ne.mpr c11
    (first | rw [c11b0] | (simp only [i64_w, i32_w]; rw [c11b0]) | skip)
    have H' := As_.mk H
    clear H
    go_wp2
    go_meet
    case rel => exact ⟨_, ((a0 == 31)), (by first | rfl | (simp; done) | (simp [*]; done) | (simp [wrap64]; done) | (congr 1; rw [Bool.eq_iff_iff]; simp; done)), H', ⟨by have := HJ2.out; first | omega | exact Nat.le_refl _⟩, by repeat (first | exact Dr_.refl _ | apply Dr_.step)⟩
   case rest =>
    clear HC10
    obtain ⟨kq, x17_9, rfl, HA, HJ9, ⟨mc9, rfl⟩⟩ := hcut
    cases kq with
    | zero => exact absurd HA.out (by simp [isa_Shape.j1])
    | succ kj9 =>
     have H := HA.out
     clear HA
     simp only [isa_Shape.j1] at H
     by_cases c12 : x17_9 = true
     ·subst c12
      have H1 : (some 8) = some r := by rw [if_pos rfl] at H; exact H
      clear H
      have H := H1
      clear H1
      obtain rfl := Option.some.inj H
      go_wp2
      go_ret
      exact ⟨by first | rfl | (simp; done) | (simp [*]; done) | (simp [wrap64]; done) | (congr 1; rw [Bool.eq_iff_iff]; simp; done), by repeat (first | exact Dr_.refl _ | apply Dr_.step)⟩
     replace c12 := Bool.eq_false_iff.mpr c12
     subst c12
     have H1 : (if a0 = 29 then (isa_Shape.j2 kj9 a0 (a0 == 29)) else (isa_Shape.j2 kj9 a0 (a0 == 30))) = some r := by rw [if_neg (show ¬ (false = true) by decide)] at H; exact H
     clear H
     have H := H1
     clear H1
     have HC13 := As_.mk H
     clear H
     go_upto_if 20 with (fail)
     go_cut [20] (fun v20 wc => ∃ (kq : Nat) (x20_12 : Bool), v20 = .bool x20_12 ∧ As_ (isa_Shape.j2 kq a0 x20_12 = some r) ∧ As_ (kq ≤ kj9) ∧ Dr_ w wc)
     case first =>
      have H := HC13.out
      clear HC13
      by_cases c14 : a0 = 29
      ·rw [if_pos c14] at H
       have c14b0 : (a0 == 29) = true := beq_iff_eq.mpr c14
       have c14b1 : (a0 != 29) = false := bne_eq_false_iff_eq.mpr c14
       clear c14
       (first | rw [c14b0] | (simp only [i64_w, i32_w]; rw [c14b0]) | skip)
       have H' := As_.mk H
       clear H
       go_wp2
       go_meet
       case rel => exact ⟨_, ((a0 == 29)), (by first | rfl | (simp; done) | (simp [*]; done) | (simp [wrap64]; done) | (congr 1; rw [Bool.eq_iff_iff]; simp; done)), H', ⟨by have := HJ2.out; have := HJ9.out; first | omega | exact Nat.le_refl _⟩, by repeat (first | exact Dr_.refl _ | apply Dr_.step)⟩
      rw [if_neg c14] at H
      have c14b0 : (a0 == 29) = false := beq_eq_false_iff_ne.mpr c14
      have c14b1 : (a0 != 29) = true := bne_iff_ne.mpr c14
      (first | rw [c14b0] | (simp only [i64_w, i32_w]; rw [c14b0]) | skip)
      have H' := As_.mk H
      clear H
      go_wp2
      go_meet
      case rel => exact ⟨_, ((a0 == 30)), (by first | rfl | (simp; done) | (simp [*]; done) | (simp [wrap64]; done) | (congr 1; rw [Bool.eq_iff_iff]; simp; done)), H', ⟨by have := HJ2.out; have := HJ9.out; first | omega | exact Nat.le_refl _⟩, by repeat (first | exact Dr_.refl _ | apply Dr_.step)⟩
     case rest =>
      clear HC13
      obtain ⟨kq, x20_12, rfl, HA, HJ12, ⟨mc12, rfl⟩⟩ := hcut
      cases kq with
      | zero => exact absurd HA.out (by simp [isa_Shape.j2])
      | succ kj12 =>
       have H := HA.out
       clear HA
       simp only [isa_Shape.j2] at H
       by_cases c15 : x20_12 = true
       ·subst c15
        have H1 : (some 9) = some r := by rw [if_pos rfl] at H; exact H
        clear H
        have H := H1
        clear H1
        obtain rfl := Option.some.inj H
        go_wp2
        go_ret
        exact ⟨by first | rfl | (simp; done) | (simp [*]; done) | (simp [wrap64]; done) | (congr 1; rw [Bool.eq_iff_iff]; simp; done), by repeat (first | exact Dr_.refl _ | apply Dr_.step)⟩
       replace c15 := Bool.eq_false_iff.mpr c15
       subst c15
       have H1 : (if a0 = 0 then (isa_Shape.j3 kj12 (a0 == 0)) else (if a0 = 32 then (isa_Shape.j3 kj12 (a0 == 32)) else (isa_Shape.j3 kj12 (a0 == 33)))) = some r := by rw [if_neg (show ¬ (false = true) by decide)] at H; exact H
       clear H
       have H := H1
       clear H1
       have HC16 := As_.mk H
       clear H
       go_upto_if 23 with (fail)
       go_cut [23] (fun v23 wc => ∃ (kq : Nat) (x23_15 : Bool), v23 = .bool x23_15 ∧ As_ (isa_Shape.j3 kq x23_15 = some r) ∧ As_ (kq ≤ kj12) ∧ Dr_ w wc)
       case first =>
        have H := HC16.out
        clear HC16
        by_cases c17 : a0 = 0
        ·rw [if_pos c17] at H
         have c17b0 : (a0 == 0) = true := beq_iff_eq.mpr c17
         have c17b1 : (a0 != 0) = false := bne_eq_false_iff_eq.mpr c17
         clear c17
         (first | rw [c17b0] | (simp only [i64_w, i32_w]; rw [c17b0]) | skip)
         have H' := As_.mk H
         clear H
         go_wp2
         go_meet
         case rel => exact ⟨_, ((a0 == 0)), (by first | rfl | (simp; done) | (simp [*]; done) | (simp [wrap64]; done) | (congr 1; rw [Bool.eq_iff_iff]; simp; done)), H', ⟨by have := HJ2.out; have := HJ9.out; have := HJ12.out; first | omega | exact Nat.le_refl _⟩, by repeat (first | exact Dr_.refl _ | apply Dr_.step)⟩
        rw [if_neg c17] at H
        have c17b0 : (a0 == 0) = false := beq_eq_false_iff_ne.mpr c17
        have c17b1 : (a0 != 0) = true := bne_iff_ne.mpr c17
        (first | rw [c17b0] | (simp only [i64_w, i32_w]; rw [c17b0]) | skip)
        by_cases c18 : a0 = 32
        ·rw [if_pos c18] at H
         have c18b0 : (a0 == 32) = true := beq_iff_eq.mpr c18
         have c18b1 : (a0 != 32) = false := bne_eq_false_iff_eq.mpr c18
         clear c18
         have H' := As_.mk H
         clear H
         go_wp2
         go_meet
         case rel => exact ⟨_, ((a0 == 32)), (by first | rfl | (simp; done) | (simp [*]; done) | (simp [wrap64]; done) | (congr 1; rw [Bool.eq_iff_iff]; simp; done)), H', ⟨by have := HJ2.out; have := HJ9.out; have := HJ12.out; first | omega | exact Nat.le_refl _⟩, by repeat (first | exact Dr_.refl _ | apply Dr_.step)⟩
        rw [if_neg c18] at H
        have c18b0 : (a0 == 32) = false := beq_eq_false_iff_ne.mpr c18
        have c18b1 : (a0 != 32) = true := bne_iff_ne.mpr c18
        have H' := As_.mk H
        clear H
        go_wp2
        go_meet
        case rel => exact ⟨_, ((a0 == 33)), (by first | rfl | (simp; done) | (simp [*]; done) | (simp [wrap64]; done) | (congr 1; rw [Bool.eq_iff_iff]; simp; done)), H', ⟨by have := HJ2.out; have := HJ9.out; have := HJ12.out; first | omega | exact Nat.le_refl _⟩, by repeat (first | exact Dr_.refl _ | apply Dr_.step)⟩
       case rest =>
        clear HC16
        obtain ⟨kq, x23_15, rfl, HA, HJ15, ⟨mc15, rfl⟩⟩ := hcut
        cases kq with
        | zero => exact absurd HA.out (by simp [isa_Shape.j3])
        | succ kj15 =>
         have H := HA.out
         clear HA
         simp only [isa_Shape.j3] at H
         by_cases c19 : x23_15 = true
         ·subst c19
          have H1 : (some 0) = some r := by rw [if_pos rfl] at H; exact H
          clear H
          have H := H1
          clear H1
          obtain rfl := Option.some.inj H
          go_wp2
          go_ret
          exact ⟨by first | rfl | (simp; done) | (simp [*]; done) | (simp [wrap64]; done) | (congr 1; rw [Bool.eq_iff_iff]; simp; done), by repeat (first | exact Dr_.refl _ | apply Dr_.step)⟩
         replace c19 := Bool.eq_false_iff.mpr c19
         subst c19
         have H1 : (some 1) = some r := by rw [if_neg (show ¬ (false = true) by decide)] at H; exact H
         clear H
         have H := H1
         clear H1
         obtain rfl := Option.some.inj H
         go_wp2
         go_ret
         exact ⟨by first | rfl | (simp; done) | (simp [*]; done) | (simp [wrap64]; done) | (congr 1; rw [Bool.eq_iff_iff]; simp; done), by repeat (first | exact Dr_.refl _ | apply Dr_.step)⟩
def isa_HasD.f (a0 : Int) : Option (Bool) := if a0 ≥ 1 then (if a0 ≤ 4 then (some true) else (some (a0 == 6))) else (some (a0 == 6))
set_option maxHeartbeats 8000000 in
set_option maxRecDepth 100000 in
theorem isa_HasD.calls (a0 : Int) (r : Bool) (w : World) (h : isa_HasD.f a0 = some r) :
    Calls Try.prog 37 #[.int .i64 a0] w fun e w' => e = .returned (.bool r) ∧ Dr_ w w' := by
 have H : (if a0 ≥ 1 then (if a0 ≤ 4 then (some true) else (some (a0 == 6))) else (some (a0 == 6))) = some r := h
 clear h
 by_cases c2 : a0 ≥ 1
 ·rw [if_pos c2] at H
  have c2b0 : decide (1 ≤ a0) = true := decide_eq_true c2
  clear c2
  by_cases c3 : a0 ≤ 4
  ·rw [if_pos c3] at H
   have c3b0 : decide (a0 ≤ 4) = true := decide_eq_true c3
   clear c3
   obtain rfl := Option.some.inj H
   go_enter Try.func37, Try.ntmps37
   go_wp2
   go_ret
   exact ⟨by first | rfl | (simp; done) | (simp [*]; done) | (simp [wrap64]; done) | (congr 1; rw [Bool.eq_iff_iff]; simp; done), by repeat (first | exact Dr_.refl _ | apply Dr_.step)⟩
  rw [if_neg c3] at H
  have c3b0 : decide (a0 ≤ 4) = false := decide_eq_false c3
  clear c3
  obtain rfl := Option.some.inj H
  go_enter Try.func37, Try.ntmps37
  go_wp2
  go_ret
  exact ⟨by first | rfl | (simp; done) | (simp [*]; done) | (simp [wrap64]; done) | (congr 1; rw [Bool.eq_iff_iff]; simp; done), by repeat (first | exact Dr_.refl _ | apply Dr_.step)⟩
 rw [if_neg c2] at H
 have c2b0 : decide (1 ≤ a0) = false := decide_eq_false c2
 clear c2
 obtain rfl := Option.some.inj H
 go_enter Try.func37, Try.ntmps37
 go_wp2
 go_ret
 exact ⟨by first | rfl | (simp; done) | (simp [*]; done) | (simp [wrap64]; done) | (congr 1; rw [Bool.eq_iff_iff]; simp; done), by repeat (first | exact Dr_.refl _ | apply Dr_.step)⟩
def isa_HasA.j0 : Nat → Bool → Option (Bool)
  | 0, _ => none
  | k + 1, x4 => if x4 = true then (some true) else (some false)
def isa_HasA.f (k : Nat) (a0 : Int) : Option (Bool) := if a0 = 1 then (isa_HasA.j0 k (a0 == 1)) else (if a0 = 2 then (isa_HasA.j0 k (a0 == 2)) else (if a0 = 3 then (isa_HasA.j0 k (a0 == 3)) else (if a0 = 5 then (isa_HasA.j0 k (a0 == 5)) else (if a0 = 7 then (isa_HasA.j0 k (a0 == 7)) else (isa_HasA.j0 k (a0 == 9))))))
theorem isa_HasA.mono_l : ∀ k, (∀ y0, LeO (isa_HasA.j0 k y0) (isa_HasA.j0 (k + 1) y0))
  | 0 => fun _ r h => by simp [isa_HasA.j0] at h
  | k + 1 => by
    have ih0 := isa_HasA.mono_l k
    · intro y0
      unfold isa_HasA.j0
      repeat' first
      | (with_reducible exact ih0 _)
      | (with_reducible exact LeO.refl _)
      | (with_reducible exact LeO.none _)
      | (with_reducible refine LeO.ite ?_ ?_)
      | (with_reducible refine LeO.bind ?_ (fun _ => ?_))
      | exact LeO.none _
      | refine LeO.ite ?_ ?_
      | refine LeO.bind ?_ (fun _ => ?_)
theorem isa_HasA.mono : ∀ a0 k, LeO (isa_HasA.f k a0) (isa_HasA.f (k + 1) a0) := by
 intro a0 k
 have ih0 := isa_HasA.mono_l k
 unfold isa_HasA.f
 repeat' first
  | (with_reducible exact ih0 _)
  | (with_reducible exact LeO.refl _)
  | (with_reducible exact LeO.none _)
  | (with_reducible refine LeO.ite ?_ ?_)
  | (with_reducible refine LeO.bind ?_ (fun _ => ?_))
  | exact LeO.none _
  | refine LeO.ite ?_ ?_
  | refine LeO.bind ?_ (fun _ => ?_)
set_option maxHeartbeats 8000000 in
set_option maxRecDepth 100000 in
theorem isa_HasA.calls (k : Nat) (a0 : Int) (r : Bool) (w : World) (h : isa_HasA.f k a0 = some r) :
    Calls Try.prog 38 #[.int .i64 a0] w fun e w' => e = .returned (.bool r) ∧ Dr_ w w' := by
 have H : (if a0 = 1 then (isa_HasA.j0 k (a0 == 1)) else (if a0 = 2 then (isa_HasA.j0 k (a0 == 2)) else (if a0 = 3 then (isa_HasA.j0 k (a0 == 3)) else (if a0 = 5 then (isa_HasA.j0 k (a0 == 5)) else (if a0 = 7 then (isa_HasA.j0 k (a0 == 7)) else (isa_HasA.j0 k (a0 == 9))))))) = some r := h
 clear h
 have HC2 := As_.mk H
 clear H
 go_enter Try.func38, Try.ntmps38
 go_upto_if 4 with (fail)
 go_cut [4] (fun v4 wc => ∃ (kq : Nat) (x4_1 : Bool), v4 = .bool x4_1 ∧ As_ (isa_HasA.j0 kq x4_1 = some r) ∧ As_ (kq ≤ k) ∧ Dr_ w wc)
 case first =>
  have H := HC2.out
  clear HC2
  by_cases c3 : a0 = 1
  ·rw [if_pos c3] at H
   have c3b0 : (a0 == 1) = true := beq_iff_eq.mpr c3
   have c3b1 : (a0 != 1) = false := bne_eq_false_iff_eq.mpr c3
   clear c3
   (first | rw [c3b0] | (simp only [i64_w, i32_w]; rw [c3b0]) | skip)
   have H' := As_.mk H
   clear H
   go_wp2
   go_meet
   case rel => exact ⟨_, ((a0 == 1)), (by first | rfl | (simp; done) | (simp [*]; done) | (simp [wrap64]; done) | (congr 1; rw [Bool.eq_iff_iff]; simp; done)), H', ⟨by first | omega | exact Nat.le_refl _⟩, by repeat (first | exact Dr_.refl _ | apply Dr_.step)⟩
  rw [if_neg c3] at H
  have c3b0 : (a0 == 1) = false := beq_eq_false_iff_ne.mpr c3
  have c3b1 : (a0 != 1) = true := bne_iff_ne.mpr c3
  (first | rw [c3b0] | (simp only [i64_w, i32_w]; rw [c3b0]) | skip)
  by_cases c4 : a0 = 2
  ·rw [if_pos c4] at H
   have c4b0 : (a0 == 2) = true := beq_iff_eq.mpr c4
   have c4b1 : (a0 != 2) = false := bne_eq_false_iff_eq.mpr c4
   clear c4
   have H' := As_.mk H
   clear H
   go_wp2
   go_meet
   case rel => exact ⟨_, ((a0 == 2)), (by first | rfl | (simp; done) | (simp [*]; done) | (simp [wrap64]; done) | (congr 1; rw [Bool.eq_iff_iff]; simp; done)), H', ⟨by first | omega | exact Nat.le_refl _⟩, by repeat (first | exact Dr_.refl _ | apply Dr_.step)⟩
  rw [if_neg c4] at H
  have c4b0 : (a0 == 2) = false := beq_eq_false_iff_ne.mpr c4
  have c4b1 : (a0 != 2) = true := bne_iff_ne.mpr c4
  by_cases c5 : a0 = 3
  ·rw [if_pos c5] at H
   have c5b0 : (a0 == 3) = true := beq_iff_eq.mpr c5
   have c5b1 : (a0 != 3) = false := bne_eq_false_iff_eq.mpr c5
   clear c5
   have H' := As_.mk H
   clear H
   go_wp2
   go_meet
   case rel => exact ⟨_, ((a0 == 3)), (by first | rfl | (simp; done) | (simp [*]; done) | (simp [wrap64]; done) | (congr 1; rw [Bool.eq_iff_iff]; simp; done)), H', ⟨by first | omega | exact Nat.le_refl _⟩, by repeat (first | exact Dr_.refl _ | apply Dr_.step)⟩
  rw [if_neg c5] at H
  have c5b0 : (a0 == 3) = false := beq_eq_false_iff_ne.mpr c5
  have c5b1 : (a0 != 3) = true := bne_iff_ne.mpr c5
  by_cases c6 : a0 = 5
  ·rw [if_pos c6] at H
   have c6b0 : (a0 == 5) = true := beq_iff_eq.mpr c6
   have c6b1 : (a0 != 5) = false := bne_eq_false_iff_eq.mpr c6
   clear c6
   have H' := As_.mk H
   clear H
   go_wp2
   go_meet
   case rel => exact ⟨_, ((a0 == 5)), (by first | rfl | (simp; done) | (simp [*]; done) | (simp [wrap64]; done) | (congr 1; rw [Bool.eq_iff_iff]; simp; done)), H', ⟨by first | omega | exact Nat.le_refl _⟩, by repeat (first | exact Dr_.refl _ | apply Dr_.step)⟩
  rw [if_neg c6] at H
  have c6b0 : (a0 == 5) = false := beq_eq_false_iff_ne.mpr c6
  have c6b1 : (a0 != 5) = true := bne_iff_ne.mpr c6
  by_cases c7 : a0 = 7
  ·rw [if_pos c7] at H
   have c7b0 : (a0 == 7) = true := beq_iff_eq.mpr c7
   have c7b1 : (a0 != 7) = false := bne_eq_false_iff_eq.mpr c7
   clear c7
   have H' := As_.mk H
   clear H
   go_wp2
   go_meet
   case rel => exact ⟨_, ((a0 == 7)), (by first | rfl | (simp; done) | (simp [*]; done) | (simp [wrap64]; done) | (congr 1; rw [Bool.eq_iff_iff]; simp; done)), H', ⟨by first | omega | exact Nat.le_refl _⟩, by repeat (first | exact Dr_.refl _ | apply Dr_.step)⟩
  rw [if_neg c7] at H
  have c7b0 : (a0 == 7) = false := beq_eq_false_iff_ne.mpr c7
  have c7b1 : (a0 != 7) = true := bne_iff_ne.mpr c7
  have H' := As_.mk H
  clear H
  go_wp2
  go_meet
  case rel => exact ⟨_, ((a0 == 9)), (by first | rfl | (simp; done) | (simp [*]; done) | (simp [wrap64]; done) | (congr 1; rw [Bool.eq_iff_iff]; simp; done)), H', ⟨by first | omega | exact Nat.le_refl _⟩, by repeat (first | exact Dr_.refl _ | apply Dr_.step)⟩
 case rest =>
  clear HC2
  obtain ⟨kq, x4_1, rfl, HA, HJ1, ⟨mc1, rfl⟩⟩ := hcut
  cases kq with
  | zero => exact absurd HA.out (by simp [isa_HasA.j0])
  | succ kj1 =>
   have H := HA.out
   clear HA
   simp only [isa_HasA.j0] at H
   by_cases c8 : x4_1 = true
   ·subst c8
    have H1 : (some true) = some r := by rw [if_pos rfl] at H; exact H
    clear H
    have H := H1
    clear H1
    obtain rfl := Option.some.inj H
    go_wp2
    go_ret
    exact ⟨by first | rfl | (simp; done) | (simp [*]; done) | (simp [wrap64]; done) | (congr 1; rw [Bool.eq_iff_iff]; simp; done), by repeat (first | exact Dr_.refl _ | apply Dr_.step)⟩
   replace c8 := Bool.eq_false_iff.mpr c8
   subst c8
   have H1 : (some false) = some r := by rw [if_neg (show ¬ (false = true) by decide)] at H; exact H
   clear H
   have H := H1
   clear H1
   obtain rfl := Option.some.inj H
   go_wp2
   go_ret
   exact ⟨by first | rfl | (simp; done) | (simp [*]; done) | (simp [wrap64]; done) | (congr 1; rw [Bool.eq_iff_iff]; simp; done), by repeat (first | exact Dr_.refl _ | apply Dr_.step)⟩
def isa_reg.f (a0 : Bool) (a1 : Int) : Option (Bool) := if a1 = 0 then (some true) else (if a0 = true then (if a1 > 0 then (some (decide (a1 < 16))) else (some false)) else (some false))
set_option maxHeartbeats 8000000 in
set_option maxRecDepth 100000 in
theorem isa_reg.calls (a0 : Bool) (a1 : Int) (r : Bool) (w : World) (h : isa_reg.f a0 a1 = some r) :
    Calls Try.prog 50 #[.bool a0, .int .i64 a1] w fun e w' => e = .returned (.bool r) ∧ Dr_ w w' := by
 have H : (if a1 = 0 then (some true) else (if a0 = true then (if a1 > 0 then (some (decide (a1 < 16))) else (some false)) else (some false))) = some r := h
 clear h
 by_cases c3 : a1 = 0
 ·rw [if_pos c3] at H
  have c3b0 : (a1 == 0) = true := beq_iff_eq.mpr c3
  have c3b1 : (a1 != 0) = false := bne_eq_false_iff_eq.mpr c3
  clear c3
  obtain rfl := Option.some.inj H
  go_enter Try.func50, Try.ntmps50
  go_wp2
  go_ret
  exact ⟨by first | rfl | (simp; done) | (simp [*]; done) | (simp [wrap64]; done) | (congr 1; rw [Bool.eq_iff_iff]; simp; done), by repeat (first | exact Dr_.refl _ | apply Dr_.step)⟩
 rw [if_neg c3] at H
 have c3b0 : (a1 == 0) = false := beq_eq_false_iff_ne.mpr c3
 have c3b1 : (a1 != 0) = true := bne_iff_ne.mpr c3
 by_cases c4 : a0 = true
 ·subst c4
  have H1 : (if a1 > 0 then (some (decide (a1 < 16))) else (some false)) = some r := by rw [if_pos rfl] at H; exact H
  clear H
  have H := H1
  clear H1
  by_cases c5 : a1 > 0
  ·rw [if_pos c5] at H
   have c5b0 : decide (0 < a1) = true := decide_eq_true c5
   clear c5
   obtain rfl := Option.some.inj H
   go_enter Try.func50, Try.ntmps50
   go_wp2
   go_ret
   exact ⟨by first | rfl | (simp; done) | (simp [*]; done) | (simp [wrap64]; done) | (congr 1; rw [Bool.eq_iff_iff]; simp; done), by repeat (first | exact Dr_.refl _ | apply Dr_.step)⟩
  rw [if_neg c5] at H
  have c5b0 : decide (0 < a1) = false := decide_eq_false c5
  clear c5
  obtain rfl := Option.some.inj H
  go_enter Try.func50, Try.ntmps50
  go_wp2
  go_ret
  exact ⟨by first | rfl | (simp; done) | (simp [*]; done) | (simp [wrap64]; done) | (congr 1; rw [Bool.eq_iff_iff]; simp; done), by repeat (first | exact Dr_.refl _ | apply Dr_.step)⟩
 replace c4 := Bool.eq_false_iff.mpr c4
 subst c4
 have H1 : (some false) = some r := by rw [if_neg (show ¬ (false = true) by decide)] at H; exact H
 clear H
 have H := H1
 clear H1
 obtain rfl := Option.some.inj H
 go_enter Try.func50, Try.ntmps50
 go_wp2
 go_ret
 exact ⟨by first | rfl | (simp; done) | (simp [*]; done) | (simp [wrap64]; done) | (congr 1; rw [Bool.eq_iff_iff]; simp; done), by repeat (first | exact Dr_.refl _ | apply Dr_.step)⟩
def isa_HasB.f (a0 : Int) : Option (Bool) := if a0 = 1 then (some true) else (some (a0 == 5))
set_option maxHeartbeats 8000000 in
set_option maxRecDepth 100000 in
theorem isa_HasB.calls (a0 : Int) (r : Bool) (w : World) (h : isa_HasB.f a0 = some r) :
    Calls Try.prog 51 #[.int .i64 a0] w fun e w' => e = .returned (.bool r) ∧ Dr_ w w' := by
 have H : (if a0 = 1 then (some true) else (some (a0 == 5))) = some r := h
 clear h
 by_cases c2 : a0 = 1
 ·rw [if_pos c2] at H
  have c2b0 : (a0 == 1) = true := beq_iff_eq.mpr c2
  have c2b1 : (a0 != 1) = false := bne_eq_false_iff_eq.mpr c2
  clear c2
  obtain rfl := Option.some.inj H
  go_enter Try.func51, Try.ntmps51
  go_wp2
  go_ret
  exact ⟨by first | rfl | (simp; done) | (simp [*]; done) | (simp [wrap64]; done) | (congr 1; rw [Bool.eq_iff_iff]; simp; done), by repeat (first | exact Dr_.refl _ | apply Dr_.step)⟩
 rw [if_neg c2] at H
 have c2b0 : (a0 == 1) = false := beq_eq_false_iff_ne.mpr c2
 have c2b1 : (a0 != 1) = true := bne_iff_ne.mpr c2
 obtain rfl := Option.some.inj H
 go_enter Try.func51, Try.ntmps51
 go_wp2
 go_ret
 exact ⟨by first | rfl | (simp; done) | (simp [*]; done) | (simp [wrap64]; done) | (congr 1; rw [Bool.eq_iff_iff]; simp; done), by repeat (first | exact Dr_.refl _ | apply Dr_.step)⟩
end Go.Proofs.Ytfnchdlgkkdegaa.PAll
