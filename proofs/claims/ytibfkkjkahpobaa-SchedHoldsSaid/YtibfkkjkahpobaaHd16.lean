import Derived.Test.YtibfkkjkahpobaaHd15
set_option linter.unusedVariables false
set_option linter.unusedSimpArgs false
set_option maxHeartbeats 8000000
set_option maxRecDepth 100000
open Go.RowKit Go.Proofs.YtibfkkjkahpobaaW.PrintWords Go.Proofs.YtibfkkjkahpobaaW.PrintLast Go.Proofs.YtibfkkjkahpobaaW.PrintMore
namespace Go.Proofs.Ytibfkkjkahpobaa.PDag
section
attribute [local go_sem] max2_int min2_int max_two min_two max_three min_three max_four min_four
def isa_Is.f (a0 : Int) : Option (Bool) := if a0 ≥ 0 then (some (decide (a0 ≤ 33))) else (some false)
theorem isa_Is.calls (a0 : Int) (r : Bool) (w : World) (h : isa_Is.f a0 = some r) :
    Calls Try.prog 96 #[.int .i64 a0] w fun e w' => e = .returned (.bool r) ∧ Dr_ w w' := by
 have H : (if a0 ≥ 0 then (some (decide (a0 ≤ 33))) else (some false)) = some r := h; clear h
 by_cases c2 : a0 ≥ 0
 ·rw [if_pos c2] at H; have c2b0 := dE_ c2; clear c2; obtain rfl := oI_ H; go_enter Try.func96, Try.ntmps96; go_wp2; go_ret; exact ⟨eQ_, dR_⟩
 rw [if_neg c2] at H; have c2b0 := dF_ c2; clear c2; obtain rfl := oI_ H; go_enter Try.func96, Try.ntmps96; go_wp2; go_ret; exact ⟨eQ_, dR_⟩
mutual
def isa_Shape.j0 : Nat → Int → Bool → Option (Int)
  | 0, _, _ => none
  | k + 1, x3, x6 => if x6 = true then (some 3) else (if x3 = 23 then (some 4) else (if x3 = 25 then (some 5) else (if x3 = 26 then (some 6) else (if x3 = 27 then (some 7) else (if x3 = 28 then (isa_Shape.j1 k x3 (x3 == 28)) else (isa_Shape.j1 k x3 (x3 == 31)))))))
def isa_Shape.j1 : Nat → Int → Bool → Option (Int)
  | 0, _, _ => none
  | k + 1, x3, x17 => if x17 = true then (some 8) else (if x3 = 29 then (isa_Shape.j2 k x3 (x3 == 29)) else (isa_Shape.j2 k x3 (x3 == 30)))
def isa_Shape.j2 : Nat → Int → Bool → Option (Int)
  | 0, _, _ => none
  | k + 1, x3, x20 => if x20 = true then (some 9) else (if x3 = 0 then (isa_Shape.j3 k (x3 == 0)) else (if x3 = 32 then (isa_Shape.j3 k (x3 == 32)) else (isa_Shape.j3 k (x3 == 33))))
def isa_Shape.j3 : Nat → Bool → Option (Int)
  | 0, _ => none
  | k + 1, x23 => if x23 = true then (some 0) else (some 1)
end
def isa_Shape.f (k : Nat) (a0 : Int) : Option (Int) := if a0 = 21 then (some 2) else (if a0 = 22 then (isa_Shape.j0 k a0 (a0 == 22)) else (isa_Shape.j0 k a0 (a0 == 24)))
theorem isa_Shape.mono_l : ∀ k, (∀ y0 y1, LeO (isa_Shape.j0 k y0 y1) (isa_Shape.j0 (k + 1) y0 y1)) ∧ (∀ y0 y1, LeO (isa_Shape.j1 k y0 y1) (isa_Shape.j1 (k + 1) y0 y1)) ∧ (∀ y0 y1, LeO (isa_Shape.j2 k y0 y1) (isa_Shape.j2 (k + 1) y0 y1)) ∧ (∀ y0, LeO (isa_Shape.j3 k y0) (isa_Shape.j3 (k + 1) y0))
  | 0 => ⟨fun _ _ r h => by simp [isa_Shape.j0] at h, fun _ _ r h => by simp [isa_Shape.j1] at h, fun _ _ r h => by simp [isa_Shape.j2] at h, fun _ r h => by simp [isa_Shape.j3] at h⟩
  | k + 1 => by
    obtain ⟨ih0, ih1, ih2, ih3⟩ := isa_Shape.mono_l k; refine ⟨?_, ?_, ?_, ?_⟩
    · intro y0 y1; unfold isa_Shape.j0
      repeat' first
      | (with_reducible exact ih0 _ _)
      | (with_reducible exact ih1 _ _)
      | (with_reducible exact ih2 _ _)
      | (with_reducible exact ih3 _)
      | (with_reducible exact LeO.refl _)
      | (with_reducible exact LeO.none _)
      | (with_reducible refine LeO.ite ?_ ?_)
      | (with_reducible refine LeO.bind ?_ (fun _ => ?_))
      | exact LeO.none _
      | refine LeO.ite ?_ ?_
      | refine LeO.bind ?_ (fun _ => ?_)
    · intro y0 y1; unfold isa_Shape.j1
      repeat' first
      | (with_reducible exact ih0 _ _)
      | (with_reducible exact ih1 _ _)
      | (with_reducible exact ih2 _ _)
      | (with_reducible exact ih3 _)
      | (with_reducible exact LeO.refl _)
      | (with_reducible exact LeO.none _)
      | (with_reducible refine LeO.ite ?_ ?_)
      | (with_reducible refine LeO.bind ?_ (fun _ => ?_))
      | exact LeO.none _
      | refine LeO.ite ?_ ?_
      | refine LeO.bind ?_ (fun _ => ?_)
    · intro y0 y1; unfold isa_Shape.j2
      repeat' first
      | (with_reducible exact ih0 _ _)
      | (with_reducible exact ih1 _ _)
      | (with_reducible exact ih2 _ _)
      | (with_reducible exact ih3 _)
      | (with_reducible exact LeO.refl _)
      | (with_reducible exact LeO.none _)
      | (with_reducible refine LeO.ite ?_ ?_)
      | (with_reducible refine LeO.bind ?_ (fun _ => ?_))
      | exact LeO.none _
      | refine LeO.ite ?_ ?_
      | refine LeO.bind ?_ (fun _ => ?_)
    · intro y0; unfold isa_Shape.j3
      repeat' first
      | (with_reducible exact ih0 _ _)
      | (with_reducible exact ih1 _ _)
      | (with_reducible exact ih2 _ _)
      | (with_reducible exact ih3 _)
      | (with_reducible exact LeO.refl _)
      | (with_reducible exact LeO.none _)
      | (with_reducible refine LeO.ite ?_ ?_)
      | (with_reducible refine LeO.bind ?_ (fun _ => ?_))
      | exact LeO.none _
      | refine LeO.ite ?_ ?_
      | refine LeO.bind ?_ (fun _ => ?_)
theorem isa_Shape.mono : ∀ a0 k, LeO (isa_Shape.f k a0) (isa_Shape.f (k + 1) a0) := by
 intro a0 k; obtain ⟨ih0, ih1, ih2, ih3⟩ := isa_Shape.mono_l k; unfold isa_Shape.f
 repeat' first
  | (with_reducible exact ih0 _ _)
  | (with_reducible exact ih1 _ _)
  | (with_reducible exact ih2 _ _)
  | (with_reducible exact ih3 _)
  | (with_reducible exact LeO.refl _)
  | (with_reducible exact LeO.none _)
  | (with_reducible refine LeO.ite ?_ ?_)
  | (with_reducible refine LeO.bind ?_ (fun _ => ?_))
  | exact LeO.none _
  | refine LeO.ite ?_ ?_
  | refine LeO.bind ?_ (fun _ => ?_)
theorem isa_Shape.calls (k : Nat) (a0 : Int) (r : Int) (w : World) (h : isa_Shape.f k a0 = some r) :
    Calls Try.prog 97 #[.int .i64 a0] w fun e w' => e = .returned (.int .i64 r) ∧ Dr_ w w' := by
 have H : (if a0 = 21 then (some 2) else (if a0 = 22 then (isa_Shape.j0 k a0 (a0 == 22)) else (isa_Shape.j0 k a0 (a0 == 24)))) = some r := h; clear h
 by_cases c2 : a0 = 21
 ·rw [if_pos c2] at H; have c2b0 := bH_ c2; have c2b1 := bF_ c2; clear c2; obtain rfl := oI_ H; go_enter Try.func97, Try.ntmps97; go_wp2; go_ret; exact ⟨eQ_, dR_⟩
 rw [if_neg c2] at H; have c2b0 := bE_ c2; have c2b1 := bG_ c2; have HC3 := aM_ H; clear H; go_enter Try.func97, Try.ntmps97
 go_upto_if 6 with (fail)
 go_cut [6] (fun v6 wc => ∃ (kq : Nat) (x6_2 : Bool), v6 = .bool x6_2 ∧ As_ (isa_Shape.j0 kq a0 x6_2 = some r) ∧ As_ (kq ≤ k) ∧ Dr_ w wc)
 case first =>
  have H := HC3.out; clear HC3
  by_cases c4 : a0 = 22
  ·rw [if_pos c4] at H; have c4b0 := bH_ c4; have c4b1 := bF_ c4; clear c4
   (first | rw [c4b0] | (simp only [i64_w, i32_w]; rw [c4b0]) | skip)
   replace H := aM_ H; go_wp2
   go_meet
   case rel => exact ⟨_, ((a0 == 22)), eQ_, H, ⟨by first | omega | exact Nat.le_refl _⟩, dR_⟩
  rw [if_neg c4] at H; have c4b0 := bE_ c4; have c4b1 := bG_ c4
  (first | rw [c4b0] | (simp only [i64_w, i32_w]; rw [c4b0]) | skip)
  replace H := aM_ H; go_wp2
  go_meet
  case rel => exact ⟨_, ((a0 == 24)), eQ_, H, ⟨by first | omega | exact Nat.le_refl _⟩, dR_⟩
 case rest =>
  clear HC3; obtain ⟨kq, x6_2, rfl, HA, HJ2, ⟨mc2, rfl⟩⟩ := hcut
  cases kq with
  | zero => exact absurd HA.out (by simp [isa_Shape.j0])
  | succ kj2 =>
   have H := HA.out; clear HA; simp only [isa_Shape.j0] at H
   by_cases c5 : x6_2 = true
   ·subst c5; rw [if_pos rfl] at H; obtain rfl := oI_ H; go_wp2; go_ret; exact ⟨eQ_, dR_⟩
   replace c5 := eF_ c5; subst c5; rw [if_neg Bool.false_ne_true] at H
   by_cases c6 : a0 = 23
   ·rw [if_pos c6] at H; have c6b0 := bH_ c6; have c6b1 := bF_ c6; clear c6; obtain rfl := oI_ H; go_wp2; go_ret; exact ⟨eQ_, dR_⟩
   rw [if_neg c6] at H; have c6b0 := bE_ c6; have c6b1 := bG_ c6
   by_cases c7 : a0 = 25
   ·rw [if_pos c7] at H; have c7b0 := bH_ c7; have c7b1 := bF_ c7; clear c7; obtain rfl := oI_ H; go_wp2; go_ret; exact ⟨eQ_, dR_⟩
   rw [if_neg c7] at H; have c7b0 := bE_ c7; have c7b1 := bG_ c7
   by_cases c8 : a0 = 26
   ·rw [if_pos c8] at H; have c8b0 := bH_ c8; have c8b1 := bF_ c8; clear c8; obtain rfl := oI_ H; go_wp2; go_ret; exact ⟨eQ_, dR_⟩
   rw [if_neg c8] at H; have c8b0 := bE_ c8; have c8b1 := bG_ c8
   by_cases c9 : a0 = 27
   ·rw [if_pos c9] at H; have c9b0 := bH_ c9; have c9b1 := bF_ c9; clear c9; obtain rfl := oI_ H; go_wp2; go_ret; exact ⟨eQ_, dR_⟩
   rw [if_neg c9] at H; have c9b0 := bE_ c9; have c9b1 := bG_ c9; have HC10 := aM_ H; clear H
   go_upto_if 17 with (fail)
   go_cut [17] (fun v17 wc => ∃ (kq : Nat) (x17_9 : Bool), v17 = .bool x17_9 ∧ As_ (isa_Shape.j1 kq a0 x17_9 = some r) ∧ As_ (kq ≤ kj2) ∧ Dr_ w wc)
   case first =>
    have H := HC10.out; clear HC10
    by_cases c11 : a0 = 28
    ·rw [if_pos c11] at H; have c11b0 := bH_ c11; have c11b1 := bF_ c11; clear c11
     (first | rw [c11b0] | (simp only [i64_w, i32_w]; rw [c11b0]) | skip)
     replace H := aM_ H; go_wp2
     go_meet
     case rel => exact ⟨_, ((a0 == 28)), eQ_, H, ⟨by have := HJ2.out; first | omega | exact Nat.le_refl _⟩, dR_⟩
    rw [if_neg c11] at H; have c11b0 := bE_ c11; have c11b1 := bG_ c11
    (first | rw [c11b0] | (simp only [i64_w, i32_w]; rw [c11b0]) | skip)
    replace H := aM_ H; go_wp2
    go_meet
    case rel => exact ⟨_, ((a0 == 31)), eQ_, H, ⟨by have := HJ2.out; first | omega | exact Nat.le_refl _⟩, dR_⟩
   case rest =>
    clear HC10; obtain ⟨kq, x17_9, rfl, HA, HJ9, ⟨mc9, rfl⟩⟩ := hcut
    cases kq with
    | zero => exact absurd HA.out (by simp [isa_Shape.j1])
    | succ kj9 =>
     have H := HA.out; clear HA; simp only [isa_Shape.j1] at H
     by_cases c12 : x17_9 = true
     ·subst c12; rw [if_pos rfl] at H; obtain rfl := oI_ H; go_wp2; go_ret; exact ⟨eQ_, dR_⟩
     replace c12 := eF_ c12; subst c12; rw [if_neg Bool.false_ne_true] at H; have HC13 := aM_ H; clear H
     go_upto_if 20 with (fail)
     go_cut [20] (fun v20 wc => ∃ (kq : Nat) (x20_12 : Bool), v20 = .bool x20_12 ∧ As_ (isa_Shape.j2 kq a0 x20_12 = some r) ∧ As_ (kq ≤ kj9) ∧ Dr_ w wc)
     case first =>
      have H := HC13.out; clear HC13
      by_cases c14 : a0 = 29
      ·rw [if_pos c14] at H; have c14b0 := bH_ c14; have c14b1 := bF_ c14; clear c14
       (first | rw [c14b0] | (simp only [i64_w, i32_w]; rw [c14b0]) | skip)
       replace H := aM_ H; go_wp2
       go_meet
       case rel => exact ⟨_, ((a0 == 29)), eQ_, H, ⟨by have := HJ2.out; have := HJ9.out; first | omega | exact Nat.le_refl _⟩, dR_⟩
      rw [if_neg c14] at H; have c14b0 := bE_ c14; have c14b1 := bG_ c14
      (first | rw [c14b0] | (simp only [i64_w, i32_w]; rw [c14b0]) | skip)
      replace H := aM_ H; go_wp2
      go_meet
      case rel => exact ⟨_, ((a0 == 30)), eQ_, H, ⟨by have := HJ2.out; have := HJ9.out; first | omega | exact Nat.le_refl _⟩, dR_⟩
     case rest =>
      clear HC13; obtain ⟨kq, x20_12, rfl, HA, HJ12, ⟨mc12, rfl⟩⟩ := hcut
      cases kq with
      | zero => exact absurd HA.out (by simp [isa_Shape.j2])
      | succ kj12 =>
       have H := HA.out; clear HA; simp only [isa_Shape.j2] at H
       by_cases c15 : x20_12 = true
       ·subst c15; rw [if_pos rfl] at H; obtain rfl := oI_ H; go_wp2; go_ret; exact ⟨eQ_, dR_⟩
       replace c15 := eF_ c15; subst c15; rw [if_neg Bool.false_ne_true] at H; have HC16 := aM_ H; clear H
       go_upto_if 23 with (fail)
       go_cut [23] (fun v23 wc => ∃ (kq : Nat) (x23_15 : Bool), v23 = .bool x23_15 ∧ As_ (isa_Shape.j3 kq x23_15 = some r) ∧ As_ (kq ≤ kj12) ∧ Dr_ w wc)
       case first =>
        have H := HC16.out; clear HC16
        by_cases c17 : a0 = 0
        ·rw [if_pos c17] at H; have c17b0 := bH_ c17; have c17b1 := bF_ c17; clear c17
         (first | rw [c17b0] | (simp only [i64_w, i32_w]; rw [c17b0]) | skip)
         replace H := aM_ H; go_wp2
         go_meet
         case rel => exact ⟨_, ((a0 == 0)), eQ_, H, ⟨by have := HJ2.out; have := HJ9.out; have := HJ12.out; first | omega | exact Nat.le_refl _⟩, dR_⟩
        rw [if_neg c17] at H; have c17b0 := bE_ c17; have c17b1 := bG_ c17
        (first | rw [c17b0] | (simp only [i64_w, i32_w]; rw [c17b0]) | skip)
        by_cases c18 : a0 = 32
        ·rw [if_pos c18] at H; have c18b0 := bH_ c18; have c18b1 := bF_ c18; clear c18; replace H := aM_ H; go_wp2
         go_meet
         case rel => exact ⟨_, ((a0 == 32)), eQ_, H, ⟨by have := HJ2.out; have := HJ9.out; have := HJ12.out; first | omega | exact Nat.le_refl _⟩, dR_⟩
        rw [if_neg c18] at H; have c18b0 := bE_ c18; have c18b1 := bG_ c18; replace H := aM_ H; go_wp2
        go_meet
        case rel => exact ⟨_, ((a0 == 33)), eQ_, H, ⟨by have := HJ2.out; have := HJ9.out; have := HJ12.out; first | omega | exact Nat.le_refl _⟩, dR_⟩
       case rest =>
        clear HC16; obtain ⟨kq, x23_15, rfl, HA, HJ15, ⟨mc15, rfl⟩⟩ := hcut
        cases kq with
        | zero => exact absurd HA.out (by simp [isa_Shape.j3])
        | succ kj15 =>
         have H := HA.out; clear HA; simp only [isa_Shape.j3] at H
         by_cases c19 : x23_15 = true
         ·subst c19; rw [if_pos rfl] at H; obtain rfl := oI_ H; go_wp2; go_ret; exact ⟨eQ_, dR_⟩
         replace c19 := eF_ c19; subst c19; rw [if_neg Bool.false_ne_true] at H; obtain rfl := oI_ H; go_wp2; go_ret; exact ⟨eQ_, dR_⟩
def isa_reg.f (a0 : Bool) (a1 : Int) : Option (Bool) := if a1 = 0 then (some true) else (if a0 = true then (if a1 > 0 then (some (decide (a1 < 16))) else (some false)) else (some false))
theorem isa_reg.calls (a0 : Bool) (a1 : Int) (r : Bool) (w : World) (h : isa_reg.f a0 a1 = some r) :
    Calls Try.prog 98 #[.bool a0, .int .i64 a1] w fun e w' => e = .returned (.bool r) ∧ Dr_ w w' := by
 have H : (if a1 = 0 then (some true) else (if a0 = true then (if a1 > 0 then (some (decide (a1 < 16))) else (some false)) else (some false))) = some r := h; clear h
 by_cases c3 : a1 = 0
 ·rw [if_pos c3] at H; have c3b0 := bH_ c3; have c3b1 := bF_ c3; clear c3; obtain rfl := oI_ H; go_enter Try.func98, Try.ntmps98; go_wp2; go_ret; exact ⟨eQ_, dR_⟩
 rw [if_neg c3] at H; have c3b0 := bE_ c3; have c3b1 := bG_ c3
 by_cases c4 : a0 = true
 ·subst c4; rw [if_pos rfl] at H
  by_cases c5 : a1 > 0
  ·rw [if_pos c5] at H; have c5b0 := dE_ c5; clear c5; obtain rfl := oI_ H; go_enter Try.func98, Try.ntmps98; go_wp2; go_ret; exact ⟨eQ_, dR_⟩
  rw [if_neg c5] at H; have c5b0 := dF_ c5; clear c5; obtain rfl := oI_ H; go_enter Try.func98, Try.ntmps98; go_wp2; go_ret; exact ⟨eQ_, dR_⟩
 replace c4 := eF_ c4; subst c4; rw [if_neg Bool.false_ne_true] at H; obtain rfl := oI_ H; go_enter Try.func98, Try.ntmps98; go_wp2; go_ret; exact ⟨eQ_, dR_⟩
def isa_HasD.f (a0 : Int) : Option (Bool) := if a0 ≥ 1 then (if a0 ≤ 4 then (some true) else (some (a0 == 6))) else (some (a0 == 6))
theorem isa_HasD.calls (a0 : Int) (r : Bool) (w : World) (h : isa_HasD.f a0 = some r) :
    Calls Try.prog 99 #[.int .i64 a0] w fun e w' => e = .returned (.bool r) ∧ Dr_ w w' := by
 have H : (if a0 ≥ 1 then (if a0 ≤ 4 then (some true) else (some (a0 == 6))) else (some (a0 == 6))) = some r := h; clear h
 by_cases c2 : a0 ≥ 1
 ·rw [if_pos c2] at H; have c2b0 := dE_ c2; clear c2
  by_cases c3 : a0 ≤ 4
  ·rw [if_pos c3] at H; have c3b0 := dE_ c3; clear c3; obtain rfl := oI_ H; go_enter Try.func99, Try.ntmps99; go_wp2; go_ret; exact ⟨eQ_, dR_⟩
  rw [if_neg c3] at H; have c3b0 := dF_ c3; clear c3; obtain rfl := oI_ H; go_enter Try.func99, Try.ntmps99; go_wp2; go_ret; exact ⟨eQ_, dR_⟩
 rw [if_neg c2] at H; have c2b0 := dF_ c2; clear c2; obtain rfl := oI_ H; go_enter Try.func99, Try.ntmps99; go_wp2; go_ret; exact ⟨eQ_, dR_⟩
def isa_HasA.j0 : Nat → Bool → Option (Bool)
  | 0, _ => none
  | k + 1, x4 => if x4 = true then (some true) else (some false)
def isa_HasA.f (k : Nat) (a0 : Int) : Option (Bool) := if a0 = 1 then (isa_HasA.j0 k (a0 == 1)) else (if a0 = 2 then (isa_HasA.j0 k (a0 == 2)) else (if a0 = 3 then (isa_HasA.j0 k (a0 == 3)) else (if a0 = 5 then (isa_HasA.j0 k (a0 == 5)) else (if a0 = 7 then (isa_HasA.j0 k (a0 == 7)) else (isa_HasA.j0 k (a0 == 9))))))
theorem isa_HasA.mono_l : ∀ k, (∀ y0, LeO (isa_HasA.j0 k y0) (isa_HasA.j0 (k + 1) y0))
  | 0 => fun _ r h => by simp [isa_HasA.j0] at h
  | k + 1 => by
    have ih0 := isa_HasA.mono_l k
    · intro y0; unfold isa_HasA.j0
      repeat' first
      | (with_reducible exact ih0 _)
      | (with_reducible exact LeO.refl _)
      | (with_reducible exact LeO.none _)
      | (with_reducible refine LeO.ite ?_ ?_)
      | (with_reducible refine LeO.bind ?_ (fun _ => ?_))
      | exact LeO.none _
      | refine LeO.ite ?_ ?_
      | refine LeO.bind ?_ (fun _ => ?_)
theorem isa_HasA.mono : ∀ a0 k, LeO (isa_HasA.f k a0) (isa_HasA.f (k + 1) a0) := by
 intro a0 k; have ih0 := isa_HasA.mono_l k; unfold isa_HasA.f
 repeat' first
  | (with_reducible exact ih0 _)
  | (with_reducible exact LeO.refl _)
  | (with_reducible exact LeO.none _)
  | (with_reducible refine LeO.ite ?_ ?_)
  | (with_reducible refine LeO.bind ?_ (fun _ => ?_))
  | exact LeO.none _
  | refine LeO.ite ?_ ?_
  | refine LeO.bind ?_ (fun _ => ?_)
theorem isa_HasA.calls (k : Nat) (a0 : Int) (r : Bool) (w : World) (h : isa_HasA.f k a0 = some r) :
    Calls Try.prog 100 #[.int .i64 a0] w fun e w' => e = .returned (.bool r) ∧ Dr_ w w' := by
 have H : (if a0 = 1 then (isa_HasA.j0 k (a0 == 1)) else (if a0 = 2 then (isa_HasA.j0 k (a0 == 2)) else (if a0 = 3 then (isa_HasA.j0 k (a0 == 3)) else (if a0 = 5 then (isa_HasA.j0 k (a0 == 5)) else (if a0 = 7 then (isa_HasA.j0 k (a0 == 7)) else (isa_HasA.j0 k (a0 == 9))))))) = some r := h; clear h; have HC2 := aM_ H; clear H; go_enter Try.func100, Try.ntmps100
 go_upto_if 4 with (fail)
 go_cut [4] (fun v4 wc => ∃ (kq : Nat) (x4_1 : Bool), v4 = .bool x4_1 ∧ As_ (isa_HasA.j0 kq x4_1 = some r) ∧ As_ (kq ≤ k) ∧ Dr_ w wc)
 case first =>
  have H := HC2.out; clear HC2
  by_cases c3 : a0 = 1
  ·rw [if_pos c3] at H; have c3b0 := bH_ c3; have c3b1 := bF_ c3; clear c3
   (first | rw [c3b0] | (simp only [i64_w, i32_w]; rw [c3b0]) | skip)
   replace H := aM_ H; go_wp2
   go_meet
   case rel => exact ⟨_, ((a0 == 1)), eQ_, H, ⟨by first | omega | exact Nat.le_refl _⟩, dR_⟩
  rw [if_neg c3] at H; have c3b0 := bE_ c3; have c3b1 := bG_ c3
  (first | rw [c3b0] | (simp only [i64_w, i32_w]; rw [c3b0]) | skip)
  by_cases c4 : a0 = 2
  ·rw [if_pos c4] at H; have c4b0 := bH_ c4; have c4b1 := bF_ c4; clear c4; replace H := aM_ H; go_wp2
   go_meet
   case rel => exact ⟨_, ((a0 == 2)), eQ_, H, ⟨by first | omega | exact Nat.le_refl _⟩, dR_⟩
  rw [if_neg c4] at H; have c4b0 := bE_ c4; have c4b1 := bG_ c4
  by_cases c5 : a0 = 3
  ·rw [if_pos c5] at H; have c5b0 := bH_ c5; have c5b1 := bF_ c5; clear c5; replace H := aM_ H; go_wp2
   go_meet
   case rel => exact ⟨_, ((a0 == 3)), eQ_, H, ⟨by first | omega | exact Nat.le_refl _⟩, dR_⟩
  rw [if_neg c5] at H; have c5b0 := bE_ c5; have c5b1 := bG_ c5
  by_cases c6 : a0 = 5
  ·rw [if_pos c6] at H; have c6b0 := bH_ c6; have c6b1 := bF_ c6; clear c6; replace H := aM_ H; go_wp2
   go_meet
   case rel => exact ⟨_, ((a0 == 5)), eQ_, H, ⟨by first | omega | exact Nat.le_refl _⟩, dR_⟩
  rw [if_neg c6] at H; have c6b0 := bE_ c6; have c6b1 := bG_ c6
  by_cases c7 : a0 = 7
  ·rw [if_pos c7] at H; have c7b0 := bH_ c7; have c7b1 := bF_ c7; clear c7; replace H := aM_ H; go_wp2
   go_meet
   case rel => exact ⟨_, ((a0 == 7)), eQ_, H, ⟨by first | omega | exact Nat.le_refl _⟩, dR_⟩
  rw [if_neg c7] at H; have c7b0 := bE_ c7; have c7b1 := bG_ c7; replace H := aM_ H; go_wp2
  go_meet
  case rel => exact ⟨_, ((a0 == 9)), eQ_, H, ⟨by first | omega | exact Nat.le_refl _⟩, dR_⟩
 case rest =>
  clear HC2; obtain ⟨kq, x4_1, rfl, HA, HJ1, ⟨mc1, rfl⟩⟩ := hcut
  cases kq with
  | zero => exact absurd HA.out (by simp [isa_HasA.j0])
  | succ kj1 =>
   have H := HA.out; clear HA; simp only [isa_HasA.j0] at H
   by_cases c8 : x4_1 = true
   ·subst c8; rw [if_pos rfl] at H; obtain rfl := oI_ H; go_wp2; go_ret; exact ⟨eQ_, dR_⟩
   replace c8 := eF_ c8; subst c8; rw [if_neg Bool.false_ne_true] at H; obtain rfl := oI_ H; go_wp2; go_ret; exact ⟨eQ_, dR_⟩
def isa_HasB.f (a0 : Int) : Option (Bool) := if a0 = 1 then (some true) else (some (a0 == 5))
theorem isa_HasB.calls (a0 : Int) (r : Bool) (w : World) (h : isa_HasB.f a0 = some r) :
    Calls Try.prog 101 #[.int .i64 a0] w fun e w' => e = .returned (.bool r) ∧ Dr_ w w' := by
 have H : (if a0 = 1 then (some true) else (some (a0 == 5))) = some r := h; clear h
 by_cases c2 : a0 = 1
 ·rw [if_pos c2] at H; have c2b0 := bH_ c2; have c2b1 := bF_ c2; clear c2; obtain rfl := oI_ H; go_enter Try.func101, Try.ntmps101; go_wp2; go_ret; exact ⟨eQ_, dR_⟩
 rw [if_neg c2] at H; have c2b0 := bE_ c2; have c2b1 := bG_ c2; obtain rfl := oI_ H; go_enter Try.func101, Try.ntmps101; go_wp2; go_ret; exact ⟨eQ_, dR_⟩
def isa_letter.f (a0 : Int) : Option (Bool) := if a0 = 95 then (some true) else (if a0 ≥ 97 then (some (decide (a0 ≤ 122))) else (some false))
theorem isa_letter.calls (a0 : Int) (r : Bool) (w : World) (h : isa_letter.f a0 = some r) :
    Calls Try.prog 126 #[.int .u8 a0] w fun e w' => e = .returned (.bool r) ∧ Dr_ w w' := by
 have H : (if a0 = 95 then (some true) else (if a0 ≥ 97 then (some (decide (a0 ≤ 122))) else (some false))) = some r := h; clear h
 by_cases c2 : a0 = 95
 ·rw [if_pos c2] at H; have c2b0 := bH_ c2; have c2b1 := bF_ c2; clear c2; obtain rfl := oI_ H; go_enter Try.func126, Try.ntmps126; go_wp2; go_ret; exact ⟨eQ_, dR_⟩
 rw [if_neg c2] at H; have c2b0 := bE_ c2; have c2b1 := bG_ c2
 by_cases c3 : a0 ≥ 97
 ·rw [if_pos c3] at H; have c3b0 := dE_ c3; clear c3; obtain rfl := oI_ H; go_enter Try.func126, Try.ntmps126; go_wp2; go_ret; exact ⟨eQ_, dR_⟩
 rw [if_neg c3] at H; have c3b0 := dF_ c3; clear c3; obtain rfl := oI_ H; go_enter Try.func126, Try.ntmps126; go_wp2; go_ret; exact ⟨eQ_, dR_⟩
end
section
attribute [local go_sem] max2_int min2_int max_two min_two max_three min_three max_four min_four
mutual
def isa_Late.j0 : Nat → Int → Bool → Option (Int)
  | 0, _, _ => none
  | k + 1, x3, x4 => if x4 = true then (some 2) else (if x3 = 20 then (isa_Late.j1 k x3 (x3 == 20)) else (isa_Late.j1 k x3 (x3 == 24)))
def isa_Late.j1 : Nat → Int → Bool → Option (Int)
  | 0, _, _ => none
  | k + 1, x3, x8 => if x8 = true then (some 3) else (if x3 = 16 then (isa_Late.j2 k (x3 == 16)) else (isa_Late.j2 k (x3 == 17)))
def isa_Late.j2 : Nat → Bool → Option (Int)
  | 0, _ => none
  | k + 1, x11 => if x11 = true then (some 4) else (some 1)
end
def isa_Late.f (k : Nat) (a0 : Int) : Option (Int) := if a0 = 14 then (isa_Late.j0 k a0 (a0 == 14)) else (if a0 = 15 then (isa_Late.j0 k a0 (a0 == 15)) else (isa_Late.j0 k a0 (a0 == 26)))
theorem isa_Late.mono_l : ∀ k, (∀ y0 y1, LeO (isa_Late.j0 k y0 y1) (isa_Late.j0 (k + 1) y0 y1)) ∧ (∀ y0 y1, LeO (isa_Late.j1 k y0 y1) (isa_Late.j1 (k + 1) y0 y1)) ∧ (∀ y0, LeO (isa_Late.j2 k y0) (isa_Late.j2 (k + 1) y0))
  | 0 => ⟨fun _ _ r h => by simp [isa_Late.j0] at h, fun _ _ r h => by simp [isa_Late.j1] at h, fun _ r h => by simp [isa_Late.j2] at h⟩
  | k + 1 => by
    obtain ⟨ih0, ih1, ih2⟩ := isa_Late.mono_l k; refine ⟨?_, ?_, ?_⟩
    · intro y0 y1; unfold isa_Late.j0
      repeat' first
      | (with_reducible exact ih0 _ _)
      | (with_reducible exact ih1 _ _)
      | (with_reducible exact ih2 _)
      | (with_reducible exact LeO.refl _)
      | (with_reducible exact LeO.none _)
      | (with_reducible refine LeO.ite ?_ ?_)
      | (with_reducible refine LeO.bind ?_ (fun _ => ?_))
      | exact LeO.none _
      | refine LeO.ite ?_ ?_
      | refine LeO.bind ?_ (fun _ => ?_)
    · intro y0 y1; unfold isa_Late.j1
      repeat' first
      | (with_reducible exact ih0 _ _)
      | (with_reducible exact ih1 _ _)
      | (with_reducible exact ih2 _)
      | (with_reducible exact LeO.refl _)
      | (with_reducible exact LeO.none _)
      | (with_reducible refine LeO.ite ?_ ?_)
      | (with_reducible refine LeO.bind ?_ (fun _ => ?_))
      | exact LeO.none _
      | refine LeO.ite ?_ ?_
      | refine LeO.bind ?_ (fun _ => ?_)
    · intro y0; unfold isa_Late.j2
      repeat' first
      | (with_reducible exact ih0 _ _)
      | (with_reducible exact ih1 _ _)
      | (with_reducible exact ih2 _)
      | (with_reducible exact LeO.refl _)
      | (with_reducible exact LeO.none _)
      | (with_reducible refine LeO.ite ?_ ?_)
      | (with_reducible refine LeO.bind ?_ (fun _ => ?_))
      | exact LeO.none _
      | refine LeO.ite ?_ ?_
      | refine LeO.bind ?_ (fun _ => ?_)
theorem isa_Late.mono : ∀ a0 k, LeO (isa_Late.f k a0) (isa_Late.f (k + 1) a0) := by
 intro a0 k; obtain ⟨ih0, ih1, ih2⟩ := isa_Late.mono_l k; unfold isa_Late.f
 repeat' first
  | (with_reducible exact ih0 _ _)
  | (with_reducible exact ih1 _ _)
  | (with_reducible exact ih2 _)
  | (with_reducible exact LeO.refl _)
  | (with_reducible exact LeO.none _)
  | (with_reducible refine LeO.ite ?_ ?_)
  | (with_reducible refine LeO.bind ?_ (fun _ => ?_))
  | exact LeO.none _
  | refine LeO.ite ?_ ?_
  | refine LeO.bind ?_ (fun _ => ?_)
theorem isa_Late.calls (k : Nat) (a0 : Int) (r : Int) (w : World) (h : isa_Late.f k a0 = some r) :
    Calls Try.prog 92 #[.int .i64 a0] w fun e w' => e = .returned (.int .i64 r) ∧ Dr_ w w' := by
 have H : (if a0 = 14 then (isa_Late.j0 k a0 (a0 == 14)) else (if a0 = 15 then (isa_Late.j0 k a0 (a0 == 15)) else (isa_Late.j0 k a0 (a0 == 26)))) = some r := h; clear h; have HC2 := aM_ H; clear H; go_enter Try.func92, Try.ntmps92
 go_upto_if 4 with (fail)
 go_cut [4] (fun v4 wc => ∃ (kq : Nat) (x4_1 : Bool), v4 = .bool x4_1 ∧ As_ (isa_Late.j0 kq a0 x4_1 = some r) ∧ As_ (kq ≤ k) ∧ Dr_ w wc)
 case first =>
  have H := HC2.out; clear HC2
  by_cases c3 : a0 = 14
  ·rw [if_pos c3] at H; have c3b0 := bH_ c3; have c3b1 := bF_ c3; clear c3
   (first | rw [c3b0] | (simp only [i64_w, i32_w]; rw [c3b0]) | skip)
   replace H := aM_ H; go_wp2
   go_meet
   case rel => exact ⟨_, ((a0 == 14)), eQ_, H, ⟨by first | omega | exact Nat.le_refl _⟩, dR_⟩
  rw [if_neg c3] at H; have c3b0 := bE_ c3; have c3b1 := bG_ c3
  (first | rw [c3b0] | (simp only [i64_w, i32_w]; rw [c3b0]) | skip)
  by_cases c4 : a0 = 15
  ·rw [if_pos c4] at H; have c4b0 := bH_ c4; have c4b1 := bF_ c4; clear c4; replace H := aM_ H; go_wp2
   go_meet
   case rel => exact ⟨_, ((a0 == 15)), eQ_, H, ⟨by first | omega | exact Nat.le_refl _⟩, dR_⟩
  rw [if_neg c4] at H; have c4b0 := bE_ c4; have c4b1 := bG_ c4; replace H := aM_ H; go_wp2
  go_meet
  case rel => exact ⟨_, ((a0 == 26)), eQ_, H, ⟨by first | omega | exact Nat.le_refl _⟩, dR_⟩
 case rest =>
  clear HC2; obtain ⟨kq, x4_1, rfl, HA, HJ1, ⟨mc1, rfl⟩⟩ := hcut
  cases kq with
  | zero => exact absurd HA.out (by simp [isa_Late.j0])
  | succ kj1 =>
   have H := HA.out; clear HA; simp only [isa_Late.j0] at H
   by_cases c5 : x4_1 = true
   ·subst c5; rw [if_pos rfl] at H; obtain rfl := oI_ H; go_wp2; go_ret; exact ⟨eQ_, dR_⟩
   replace c5 := eF_ c5; subst c5; rw [if_neg Bool.false_ne_true] at H; have HC6 := aM_ H; clear H
   go_upto_if 8 with (fail)
   go_cut [8] (fun v8 wc => ∃ (kq : Nat) (x8_5 : Bool), v8 = .bool x8_5 ∧ As_ (isa_Late.j1 kq a0 x8_5 = some r) ∧ As_ (kq ≤ kj1) ∧ Dr_ w wc)
   case first =>
    have H := HC6.out; clear HC6
    by_cases c7 : a0 = 20
    ·rw [if_pos c7] at H; have c7b0 := bH_ c7; have c7b1 := bF_ c7; clear c7
     (first | rw [c7b0] | (simp only [i64_w, i32_w]; rw [c7b0]) | skip)
     replace H := aM_ H; go_wp2
     go_meet
     case rel => exact ⟨_, ((a0 == 20)), eQ_, H, ⟨by have := HJ1.out; first | omega | exact Nat.le_refl _⟩, dR_⟩
    rw [if_neg c7] at H; have c7b0 := bE_ c7; have c7b1 := bG_ c7
    (first | rw [c7b0] | (simp only [i64_w, i32_w]; rw [c7b0]) | skip)
    replace H := aM_ H; go_wp2
    go_meet
    case rel => exact ⟨_, ((a0 == 24)), eQ_, H, ⟨by have := HJ1.out; first | omega | exact Nat.le_refl _⟩, dR_⟩
   case rest =>
    clear HC6; obtain ⟨kq, x8_5, rfl, HA, HJ5, ⟨mc5, rfl⟩⟩ := hcut
    cases kq with
    | zero => exact absurd HA.out (by simp [isa_Late.j1])
    | succ kj5 =>
     have H := HA.out; clear HA; simp only [isa_Late.j1] at H
     by_cases c8 : x8_5 = true
     ·subst c8; rw [if_pos rfl] at H; obtain rfl := oI_ H; go_wp2; go_ret; exact ⟨eQ_, dR_⟩
     replace c8 := eF_ c8; subst c8; rw [if_neg Bool.false_ne_true] at H; have HC9 := aM_ H; clear H
     go_upto_if 11 with (fail)
     go_cut [11] (fun v11 wc => ∃ (kq : Nat) (x11_8 : Bool), v11 = .bool x11_8 ∧ As_ (isa_Late.j2 kq x11_8 = some r) ∧ As_ (kq ≤ kj5) ∧ Dr_ w wc)
     case first =>
      have H := HC9.out; clear HC9
      by_cases c10 : a0 = 16
      ·rw [if_pos c10] at H; have c10b0 := bH_ c10; have c10b1 := bF_ c10; clear c10
       (first | rw [c10b0] | (simp only [i64_w, i32_w]; rw [c10b0]) | skip)
       replace H := aM_ H; go_wp2
       go_meet
       case rel => exact ⟨_, ((a0 == 16)), eQ_, H, ⟨by have := HJ1.out; have := HJ5.out; first | omega | exact Nat.le_refl _⟩, dR_⟩
      rw [if_neg c10] at H; have c10b0 := bE_ c10; have c10b1 := bG_ c10
      (first | rw [c10b0] | (simp only [i64_w, i32_w]; rw [c10b0]) | skip)
      replace H := aM_ H; go_wp2
      go_meet
      case rel => exact ⟨_, ((a0 == 17)), eQ_, H, ⟨by have := HJ1.out; have := HJ5.out; first | omega | exact Nat.le_refl _⟩, dR_⟩
     case rest =>
      clear HC9; obtain ⟨kq, x11_8, rfl, HA, HJ8, ⟨mc8, rfl⟩⟩ := hcut
      cases kq with
      | zero => exact absurd HA.out (by simp [isa_Late.j2])
      | succ kj8 =>
       have H := HA.out; clear HA; simp only [isa_Late.j2] at H
       by_cases c11 : x11_8 = true
       ·subst c11; rw [if_pos rfl] at H; obtain rfl := oI_ H; go_wp2; go_ret; exact ⟨eQ_, dR_⟩
       replace c11 := eF_ c11; subst c11; rw [if_neg Bool.false_ne_true] at H; obtain rfl := oI_ H; go_wp2; go_ret; exact ⟨eQ_, dR_⟩
def isa_Effect.j0 : Nat → Bool → Option (Bool)
  | 0, _ => none
  | k + 1, x4 => if x4 = true then (some true) else (some false)
def isa_Effect.f (k : Nat) (a0 : Int) : Option (Bool) := if a0 = 16 then (isa_Effect.j0 k (a0 == 16)) else (if a0 = 17 then (isa_Effect.j0 k (a0 == 17)) else (if a0 = 24 then (isa_Effect.j0 k (a0 == 24)) else (if a0 = 25 then (isa_Effect.j0 k (a0 == 25)) else (if a0 = 26 then (isa_Effect.j0 k (a0 == 26)) else (if a0 = 27 then (isa_Effect.j0 k (a0 == 27)) else (if a0 = 31 then (isa_Effect.j0 k (a0 == 31)) else (if a0 = 32 then (isa_Effect.j0 k (a0 == 32)) else (isa_Effect.j0 k (a0 == 33)))))))))
theorem isa_Effect.mono_l : ∀ k, (∀ y0, LeO (isa_Effect.j0 k y0) (isa_Effect.j0 (k + 1) y0))
  | 0 => fun _ r h => by simp [isa_Effect.j0] at h
  | k + 1 => by
    have ih0 := isa_Effect.mono_l k
    · intro y0; unfold isa_Effect.j0
      repeat' first
      | (with_reducible exact ih0 _)
      | (with_reducible exact LeO.refl _)
      | (with_reducible exact LeO.none _)
      | (with_reducible refine LeO.ite ?_ ?_)
      | (with_reducible refine LeO.bind ?_ (fun _ => ?_))
      | exact LeO.none _
      | refine LeO.ite ?_ ?_
      | refine LeO.bind ?_ (fun _ => ?_)
theorem isa_Effect.mono : ∀ a0 k, LeO (isa_Effect.f k a0) (isa_Effect.f (k + 1) a0) := by
 intro a0 k; have ih0 := isa_Effect.mono_l k; unfold isa_Effect.f
 repeat' first
  | (with_reducible exact ih0 _)
  | (with_reducible exact LeO.refl _)
  | (with_reducible exact LeO.none _)
  | (with_reducible refine LeO.ite ?_ ?_)
  | (with_reducible refine LeO.bind ?_ (fun _ => ?_))
  | exact LeO.none _
  | refine LeO.ite ?_ ?_
  | refine LeO.bind ?_ (fun _ => ?_)
theorem isa_Effect.calls (k : Nat) (a0 : Int) (r : Bool) (w : World) (h : isa_Effect.f k a0 = some r) :
    Calls Try.prog 94 #[.int .i64 a0] w fun e w' => e = .returned (.bool r) ∧ Dr_ w w' := by
 have H : (if a0 = 16 then (isa_Effect.j0 k (a0 == 16)) else (if a0 = 17 then (isa_Effect.j0 k (a0 == 17)) else (if a0 = 24 then (isa_Effect.j0 k (a0 == 24)) else (if a0 = 25 then (isa_Effect.j0 k (a0 == 25)) else (if a0 = 26 then (isa_Effect.j0 k (a0 == 26)) else (if a0 = 27 then (isa_Effect.j0 k (a0 == 27)) else (if a0 = 31 then (isa_Effect.j0 k (a0 == 31)) else (if a0 = 32 then (isa_Effect.j0 k (a0 == 32)) else (isa_Effect.j0 k (a0 == 33)))))))))) = some r := h; clear h; have HC2 := aM_ H; clear H; go_enter Try.func94, Try.ntmps94
 go_upto_if 4 with (fail)
 go_cut [4] (fun v4 wc => ∃ (kq : Nat) (x4_1 : Bool), v4 = .bool x4_1 ∧ As_ (isa_Effect.j0 kq x4_1 = some r) ∧ As_ (kq ≤ k) ∧ Dr_ w wc)
 case first =>
  have H := HC2.out; clear HC2
  by_cases c3 : a0 = 16
  ·rw [if_pos c3] at H; have c3b0 := bH_ c3; have c3b1 := bF_ c3; clear c3
   (first | rw [c3b0] | (simp only [i64_w, i32_w]; rw [c3b0]) | skip)
   replace H := aM_ H; go_wp2
   go_meet
   case rel => exact ⟨_, ((a0 == 16)), eQ_, H, ⟨by first | omega | exact Nat.le_refl _⟩, dR_⟩
  rw [if_neg c3] at H; have c3b0 := bE_ c3; have c3b1 := bG_ c3
  (first | rw [c3b0] | (simp only [i64_w, i32_w]; rw [c3b0]) | skip)
  by_cases c4 : a0 = 17
  ·rw [if_pos c4] at H; have c4b0 := bH_ c4; have c4b1 := bF_ c4; clear c4; replace H := aM_ H; go_wp2
   go_meet
   case rel => exact ⟨_, ((a0 == 17)), eQ_, H, ⟨by first | omega | exact Nat.le_refl _⟩, dR_⟩
  rw [if_neg c4] at H; have c4b0 := bE_ c4; have c4b1 := bG_ c4
  by_cases c5 : a0 = 24
  ·rw [if_pos c5] at H; have c5b0 := bH_ c5; have c5b1 := bF_ c5; clear c5; replace H := aM_ H; go_wp2
   go_meet
   case rel => exact ⟨_, ((a0 == 24)), eQ_, H, ⟨by first | omega | exact Nat.le_refl _⟩, dR_⟩
  rw [if_neg c5] at H; have c5b0 := bE_ c5; have c5b1 := bG_ c5
  by_cases c6 : a0 = 25
  ·rw [if_pos c6] at H; have c6b0 := bH_ c6; have c6b1 := bF_ c6; clear c6; replace H := aM_ H; go_wp2
   go_meet
   case rel => exact ⟨_, ((a0 == 25)), eQ_, H, ⟨by first | omega | exact Nat.le_refl _⟩, dR_⟩
  rw [if_neg c6] at H; have c6b0 := bE_ c6; have c6b1 := bG_ c6
  by_cases c7 : a0 = 26
  ·rw [if_pos c7] at H; have c7b0 := bH_ c7; have c7b1 := bF_ c7; clear c7; replace H := aM_ H; go_wp2
   go_meet
   case rel => exact ⟨_, ((a0 == 26)), eQ_, H, ⟨by first | omega | exact Nat.le_refl _⟩, dR_⟩
  rw [if_neg c7] at H; have c7b0 := bE_ c7; have c7b1 := bG_ c7
  by_cases c8 : a0 = 27
  ·rw [if_pos c8] at H; have c8b0 := bH_ c8; have c8b1 := bF_ c8; clear c8; replace H := aM_ H; go_wp2
   go_meet
   case rel => exact ⟨_, ((a0 == 27)), eQ_, H, ⟨by first | omega | exact Nat.le_refl _⟩, dR_⟩
  rw [if_neg c8] at H; have c8b0 := bE_ c8; have c8b1 := bG_ c8
  by_cases c9 : a0 = 31
  ·rw [if_pos c9] at H; have c9b0 := bH_ c9; have c9b1 := bF_ c9; clear c9; replace H := aM_ H; go_wp2
   go_meet
   case rel => exact ⟨_, ((a0 == 31)), eQ_, H, ⟨by first | omega | exact Nat.le_refl _⟩, dR_⟩
  rw [if_neg c9] at H; have c9b0 := bE_ c9; have c9b1 := bG_ c9
  by_cases c10 : a0 = 32
  ·rw [if_pos c10] at H; have c10b0 := bH_ c10; have c10b1 := bF_ c10; clear c10; replace H := aM_ H; go_wp2
   go_meet
   case rel => exact ⟨_, ((a0 == 32)), eQ_, H, ⟨by first | omega | exact Nat.le_refl _⟩, dR_⟩
  rw [if_neg c10] at H; have c10b0 := bE_ c10; have c10b1 := bG_ c10; replace H := aM_ H; go_wp2
  go_meet
  case rel => exact ⟨_, ((a0 == 33)), eQ_, H, ⟨by first | omega | exact Nat.le_refl _⟩, dR_⟩
 case rest =>
  clear HC2; obtain ⟨kq, x4_1, rfl, HA, HJ1, ⟨mc1, rfl⟩⟩ := hcut
  cases kq with
  | zero => exact absurd HA.out (by simp [isa_Effect.j0])
  | succ kj1 =>
   have H := HA.out; clear HA; simp only [isa_Effect.j0] at H
   by_cases c11 : x4_1 = true
   ·subst c11; rw [if_pos rfl] at H; obtain rfl := oI_ H; go_wp2; go_ret; exact ⟨eQ_, dR_⟩
   replace c11 := eF_ c11; subst c11; rw [if_neg Bool.false_ne_true] at H; obtain rfl := oI_ H; go_wp2; go_ret; exact ⟨eQ_, dR_⟩
def dag_writes.f (k : Nat) (a0_0 : Int) (a0_1 : Int) (a0_2 : Int) (a0_3 : Int) (a0_4 : Int) (a0_5 : ByteArray) (a1 : Int) : Option (Bool) := (isa_Shape.f k a0_0).bind fun t131 => ((isa_HasD.f t131).bind fun t132 => (if t132 = true then (some (a0_1 == a1)) else (some false)))
theorem dag_writes.calls (k : Nat) (a0_0 : Int) (a0_1 : Int) (a0_2 : Int) (a0_3 : Int) (a0_4 : Int) (a0_5 : ByteArray) (a1 : Int) (r : Bool) (w : World) (h : dag_writes.f k a0_0 a0_1 a0_2 a0_3 a0_4 a0_5 a1 = some r) :
    Calls Try.prog 115 #[.agg #[.int .i64 a0_0, .int .i64 a0_1, .int .i64 a0_2, .int .i64 a0_3, .int .i64 a0_4, .string a0_5], .int .i64 a1] w fun e w' => e = .returned (.bool r) ∧ Below w.heap.size w w' := by
 have hu24 := Try.underlying24; have HB := aM_ (Below.refl w.heap.size w); have H : ((isa_Shape.f k a0_0).bind fun t131 => ((isa_HasD.f t131).bind fun t132 => (if t132 = true then (some (a0_1 == a1)) else (some false)))) = some r := h; clear h; obtain ⟨t131, A3, H⟩ := oB_ H; obtain ⟨t132, A4, H⟩ := oB_ H
 by_cases c5 : t132 = true
 ·subst c5; rw [if_pos rfl] at H; obtain rfl := oI_ H; go_enter Try.func115, Try.ntmps115
  go_wp2_with (first | ((with_reducible refine gate_dst (N := 2) rfl ?_); refine bX_ (N := 2) (cs := #[.int .i64 a0_0, .int .i64 a0_1, .int .i64 a0_2, .int .i64 a0_3, .int .i64 a0_4, .string a0_5]) (t := 24) ?_; intro gb130 hg w6 hbox hb; replace BK130 := aM_ (hbox); replace GW130 := aM_ (gE_ hg (bl_ HB)); replace GE130 := aM_ (gE_ hg (bl_ HB)); replace HB := aM_ (bT_ (bl_ HB) hb); clear hb hbox hg; obtain ⟨hcz7_0, hcz7_1, hcz7_2, hcz7_3, hcz7_4, hcz7_5⟩ := cl6_ BK130.out; obtain ⟨hfz7_0, hfz7_1, hfz7_2, hfz7_3, hfz7_4, hfz7_5⟩ := fz6_ BK130.out) | ((with_reducible refine gC_ (f := 97) rfl ?_); refine gL_ (some 7) Try.func97 #[.int .i64 a0_0] rfl ?_; (with_reducible refine (isa_Shape.calls k a0_0 t131 _ A3.out).mono ?_); rintro e w' ⟨rfl, ⟨nd, rfl⟩⟩; refine ⟨_, rfl, ?_⟩) | ((with_reducible refine gC_ (f := 99) rfl ?_); refine gL_ (some 8) Try.func99 #[.int .i64 t131] rfl ?_; (with_reducible refine (isa_HasD.calls t131 true _ A4.out).mono ?_); rintro e w' ⟨rfl, ⟨nd, rfl⟩⟩; refine ⟨_, rfl, ?_⟩))
  go_ret; exact ⟨eR_, bs_ HB GE130⟩
 replace c5 := eF_ c5; subst c5; rw [if_neg Bool.false_ne_true] at H; obtain rfl := oI_ H; go_enter Try.func115, Try.ntmps115
 go_wp2_with (first | ((with_reducible refine gate_dst (N := 2) rfl ?_); refine bX_ (N := 2) (cs := #[.int .i64 a0_0, .int .i64 a0_1, .int .i64 a0_2, .int .i64 a0_3, .int .i64 a0_4, .string a0_5]) (t := 24) ?_; intro gb130 hg w8 hbox hb; replace BK130 := aM_ (hbox); replace GW130 := aM_ (gE_ hg (bl_ HB)); replace GE130 := aM_ (gE_ hg (bl_ HB)); replace HB := aM_ (bT_ (bl_ HB) hb); clear hb hbox hg; obtain ⟨hcz9_0, hcz9_1, hcz9_2, hcz9_3, hcz9_4, hcz9_5⟩ := cl6_ BK130.out; obtain ⟨hfz9_0, hfz9_1, hfz9_2, hfz9_3, hfz9_4, hfz9_5⟩ := fz6_ BK130.out) | ((with_reducible refine gC_ (f := 97) rfl ?_); refine gL_ (some 7) Try.func97 #[.int .i64 a0_0] rfl ?_; (with_reducible refine (isa_Shape.calls k a0_0 t131 _ A3.out).mono ?_); rintro e w' ⟨rfl, ⟨nd, rfl⟩⟩; refine ⟨_, rfl, ?_⟩) | ((with_reducible refine gC_ (f := 99) rfl ?_); refine gL_ (some 8) Try.func99 #[.int .i64 t131] rfl ?_; (with_reducible refine (isa_HasD.calls t131 false _ A4.out).mono ?_); rintro e w' ⟨rfl, ⟨nd, rfl⟩⟩; refine ⟨_, rfl, ?_⟩))
 go_ret; exact ⟨eR_, bs_ HB GE130⟩
def IsS24 (w0 W : World) (g : Nat) (f0 : Int) (f1 : Int) (f2 : Int) (f3 : Int) (f4 : Int) (f5 : ByteArray) : Prop := W.heap[g]? = some (.cells #[.int .i64 f0, .int .i64 f1, .int .i64 f2, .int .i64 f3, .int .i64 f4, .string f5] 24 (0, 0)) ∧ w0.heap.size ≤ g
theorem IsS24.grown {w0 W : World} {g : Nat} {f0 : Int} {f1 : Int} {f2 : Int} {f3 : Int} {f4 : Int} {f5 : ByteArray} {W1 : World} {row : Option Nat} (h : IsS24 w0 W g f0 f1 f2 f3 f4 f5) (hw : W.grownBy W1 row) (hne : some g ≠ row) : IsS24 w0 W1 g f0 f1 f2 f3 f4 f5 := by
 obtain ⟨hb, hg⟩ := h; exact ⟨blk_grown hb hw hne, hg⟩
theorem IsS24.kept {w0 W : World} {g : Nat} {f0 : Int} {f1 : Int} {f2 : Int} {f3 : Int} {f4 : Int} {f5 : ByteArray} {W1 : World} {S : Nat → Prop} (h : IsS24 w0 W g f0 f1 f2 f3 f4 f5) (hk : Kept W W1 S) (hne : ¬ S g) : IsS24 w0 W1 g f0 f1 f2 f3 f4 f5 := by
 obtain ⟨hb, hg⟩ := h; exact ⟨blk_kept hb hk hne, hg⟩
theorem IsS24.below {w0 W : World} {g : Nat} {f0 : Int} {f1 : Int} {f2 : Int} {f3 : Int} {f4 : Int} {f5 : ByteArray} {W1 : World} (h : IsS24 w0 W g f0 f1 f2 f3 f4 f5) (hw : Below W.heap.size W W1) : IsS24 w0 W1 g f0 f1 f2 f3 f4 f5 := h.grown (grown_of_below hw none) (by simp)
theorem IsS24.alloc {w0 W : World} {g : Nat} {f0 : Int} {f1 : Int} {f2 : Int} {f3 : Int} {f4 : Int} {f5 : ByteArray} (h : IsS24 w0 W g f0 f1 f2 f3 f4 f5) (o : Obj) : IsS24 w0 (W.alloc o) g f0 f1 f2 f3 f4 f5 := h.below (bA_ (Below.refl _ _) o)
theorem IsS24.drewN {w0 W : World} {g : Nat} {f0 : Int} {f1 : Int} {f2 : Int} {f3 : Int} {f4 : Int} {f5 : ByteArray} (h : IsS24 w0 W g f0 f1 f2 f3 f4 f5) (m : Nat) : IsS24 w0 (W.drewN m) g f0 f1 f2 f3 f4 f5 := h
theorem IsS24.drew {w0 W : World} {g : Nat} {f0 : Int} {f1 : Int} {f2 : Int} {f3 : Int} {f4 : Int} {f5 : ByteArray} (h : IsS24 w0 W g f0 f1 f2 f3 f4 f5) : IsS24 w0 W.drew g f0 f1 f2 f3 f4 f5 := h
theorem IsS24.at_ {w0 W : World} {g : Nat} {f0 : Int} {f1 : Int} {f2 : Int} {f3 : Int} {f4 : Int} {f5 : ByteArray} {w' : World} {m : Nat} (hq : W.drewN m = w') (h : IsS24 w0 W g f0 f1 f2 f3 f4 f5) : IsS24 w0 w' g f0 f1 f2 f3 f4 f5 := by subst hq; exact IsS24.drewN h m
theorem IsS24.apart {w0 W : World} {g : Nat} {f0 : Int} {f1 : Int} {f2 : Int} {f3 : Int} {f4 : Int} {f5 : ByteArray} {α : Type} {d : Kd α} {e : Nat} {base : Nat} {ok : Nat → Prop} {v : Value} {xs : List α} (h : IsS24 w0 W g f0 f1 f2 f3 f4 f5) (ho : d.R e W base ok v xs) (ht : ∀ q, q ∈ e :: d.E → q ≠ 24) : d.R e W base (fun k => ok k ∧ k ≠ g) v xs := by
 obtain ⟨hb, hg⟩ := h; exact Kd.R_types ho hb ht
theorem IsS24.own_ne {w0 W : World} {g : Nat} {f0 : Int} {f1 : Int} {f2 : Int} {f3 : Int} {f4 : Int} {f5 : ByteArray} {α : Type} {d : Kd α} {e : Nat} {base : Nat} {ok : Nat → Prop} {v : Value} {xs : List α} (h : IsS24 w0 W g f0 f1 f2 f3 f4 f5) (ho : d.R e W base ok v xs) (ht : e ≠ 24) : some g ≠ v.ownBlock := by
 obtain ⟨hb, hg⟩ := h; exact Kd.R_ne ho hb ht
theorem IsS24.lt {w0 W : World} {g : Nat} {f0 : Int} {f1 : Int} {f2 : Int} {f3 : Int} {f4 : Int} {f5 : ByteArray} (h : IsS24 w0 W g f0 f1 f2 f3 f4 f5) : g < W.heap.size := by
 obtain ⟨hb, hg⟩ := h; exact blk_lt hb
theorem IsS24.ge {w0 W : World} {g : Nat} {f0 : Int} {f1 : Int} {f2 : Int} {f3 : Int} {f4 : Int} {f5 : ByteArray} (h : IsS24 w0 W g f0 f1 f2 f3 f4 f5) : w0.heap.size ≤ g := by
 obtain ⟨hb, hg⟩ := h; exact hg
theorem cellS24_0 {W : World} {g : Nat} {f0 : Int} {f1 : Int} {f2 : Int} {f3 : Int} {f4 : Int} {f5 : ByteArray} (h : W.heap[g]? = some (.cells #[.int .i64 f0, .int .i64 f1, .int .i64 f2, .int .i64 f3, .int .i64 f4, .string f5] 24 (0, 0))) : W.cell? ⟨g, 0, none⟩ = some (.int .i64 f0) := (bC_ h 0).trans rfl
theorem IsS24.set_0 {w0 W : World} {g : Nat} {f0 : Int} {f1 : Int} {f2 : Int} {f3 : Int} {f4 : Int} {f5 : ByteArray} (h : IsS24 w0 W g f0 f1 f2 f3 f4 f5) (x : Int) : IsS24 w0 (W.setCell ⟨g, 0, none⟩ (.int .i64 x)) g x f1 f2 f3 f4 f5 := by
 obtain ⟨hb, hg⟩ := h; exact ⟨by simpa using blk_set hb 0 (.int .i64 x), hg⟩
theorem cellS24_1 {W : World} {g : Nat} {f0 : Int} {f1 : Int} {f2 : Int} {f3 : Int} {f4 : Int} {f5 : ByteArray} (h : W.heap[g]? = some (.cells #[.int .i64 f0, .int .i64 f1, .int .i64 f2, .int .i64 f3, .int .i64 f4, .string f5] 24 (0, 0))) : W.cell? ⟨g, 1, none⟩ = some (.int .i64 f1) := (bC_ h 1).trans rfl
theorem IsS24.set_1 {w0 W : World} {g : Nat} {f0 : Int} {f1 : Int} {f2 : Int} {f3 : Int} {f4 : Int} {f5 : ByteArray} (h : IsS24 w0 W g f0 f1 f2 f3 f4 f5) (x : Int) : IsS24 w0 (W.setCell ⟨g, 1, none⟩ (.int .i64 x)) g f0 x f2 f3 f4 f5 := by
 obtain ⟨hb, hg⟩ := h; exact ⟨by simpa using blk_set hb 1 (.int .i64 x), hg⟩
theorem cellS24_2 {W : World} {g : Nat} {f0 : Int} {f1 : Int} {f2 : Int} {f3 : Int} {f4 : Int} {f5 : ByteArray} (h : W.heap[g]? = some (.cells #[.int .i64 f0, .int .i64 f1, .int .i64 f2, .int .i64 f3, .int .i64 f4, .string f5] 24 (0, 0))) : W.cell? ⟨g, 2, none⟩ = some (.int .i64 f2) := (bC_ h 2).trans rfl
theorem IsS24.set_2 {w0 W : World} {g : Nat} {f0 : Int} {f1 : Int} {f2 : Int} {f3 : Int} {f4 : Int} {f5 : ByteArray} (h : IsS24 w0 W g f0 f1 f2 f3 f4 f5) (x : Int) : IsS24 w0 (W.setCell ⟨g, 2, none⟩ (.int .i64 x)) g f0 f1 x f3 f4 f5 := by
 obtain ⟨hb, hg⟩ := h; exact ⟨by simpa using blk_set hb 2 (.int .i64 x), hg⟩
theorem cellS24_3 {W : World} {g : Nat} {f0 : Int} {f1 : Int} {f2 : Int} {f3 : Int} {f4 : Int} {f5 : ByteArray} (h : W.heap[g]? = some (.cells #[.int .i64 f0, .int .i64 f1, .int .i64 f2, .int .i64 f3, .int .i64 f4, .string f5] 24 (0, 0))) : W.cell? ⟨g, 3, none⟩ = some (.int .i64 f3) := (bC_ h 3).trans rfl
theorem IsS24.set_3 {w0 W : World} {g : Nat} {f0 : Int} {f1 : Int} {f2 : Int} {f3 : Int} {f4 : Int} {f5 : ByteArray} (h : IsS24 w0 W g f0 f1 f2 f3 f4 f5) (x : Int) : IsS24 w0 (W.setCell ⟨g, 3, none⟩ (.int .i64 x)) g f0 f1 f2 x f4 f5 := by
 obtain ⟨hb, hg⟩ := h; exact ⟨by simpa using blk_set hb 3 (.int .i64 x), hg⟩
theorem cellS24_4 {W : World} {g : Nat} {f0 : Int} {f1 : Int} {f2 : Int} {f3 : Int} {f4 : Int} {f5 : ByteArray} (h : W.heap[g]? = some (.cells #[.int .i64 f0, .int .i64 f1, .int .i64 f2, .int .i64 f3, .int .i64 f4, .string f5] 24 (0, 0))) : W.cell? ⟨g, 4, none⟩ = some (.int .i64 f4) := (bC_ h 4).trans rfl
theorem IsS24.set_4 {w0 W : World} {g : Nat} {f0 : Int} {f1 : Int} {f2 : Int} {f3 : Int} {f4 : Int} {f5 : ByteArray} (h : IsS24 w0 W g f0 f1 f2 f3 f4 f5) (x : Int) : IsS24 w0 (W.setCell ⟨g, 4, none⟩ (.int .i64 x)) g f0 f1 f2 f3 x f5 := by
 obtain ⟨hb, hg⟩ := h; exact ⟨by simpa using blk_set hb 4 (.int .i64 x), hg⟩
theorem cellS24_5 {W : World} {g : Nat} {f0 : Int} {f1 : Int} {f2 : Int} {f3 : Int} {f4 : Int} {f5 : ByteArray} (h : W.heap[g]? = some (.cells #[.int .i64 f0, .int .i64 f1, .int .i64 f2, .int .i64 f3, .int .i64 f4, .string f5] 24 (0, 0))) : W.cell? ⟨g, 5, none⟩ = some (.string f5) := (bC_ h 5).trans rfl
theorem IsS24.set_5 {w0 W : World} {g : Nat} {f0 : Int} {f1 : Int} {f2 : Int} {f3 : Int} {f4 : Int} {f5 : ByteArray} (h : IsS24 w0 W g f0 f1 f2 f3 f4 f5) (x : ByteArray) : IsS24 w0 (W.setCell ⟨g, 5, none⟩ (.string x)) g f0 f1 f2 f3 f4 x := by
 obtain ⟨hb, hg⟩ := h; exact ⟨by simpa using blk_set hb 5 (.string x), hg⟩
theorem IsS24.new (w0 W : World) (f0 : Int) (f1 : Int) (f2 : Int) (f3 : Int) (f4 : Int) (f5 : ByteArray) (hB : Below w0.heap.size w0 W) : IsS24 w0 (W.alloc (.cells #[.int .i64 f0, .int .i64 f1, .int .i64 f2, .int .i64 f3, .int .i64 f4, .string f5] 24)) W.heap.size f0 f1 f2 f3 f4 f5 := ⟨by simpa using heap_alloc_new W _, hB.size⟩
def dag_reads_1.f (k : Nat) (a0 : Int) (s1_0 : Int) (s1_1 : Int) (s1_2 : Int) (s1_3 : Int) (s1_4 : Int) (s1_5 : ByteArray) : Option (Bool × Int × Int × Int × Int × Int × ByteArray) := (dag_writes.f k s1_0 s1_1 s1_2 s1_3 s1_4 s1_5 a0).bind fun t133 => (some (t133, s1_0, s1_1, s1_2, s1_3, s1_4, s1_5))
theorem dag_reads_1.calls (k : Nat) (a0 : Int) (g : Nat) (s1_0 : Int) (s1_1 : Int) (s1_2 : Int) (s1_3 : Int) (s1_4 : Int) (s1_5 : ByteArray) (r1 : Bool) (r2 : Int) (r3 : Int) (r4 : Int) (r5 : Int) (r6 : Int) (r7 : ByteArray) (w0 w : World) (hI : IsS24 w0 w g s1_0 s1_1 s1_2 s1_3 s1_4 s1_5) (hB : Below w0.heap.size w0 w) (h : dag_reads_1.f k a0 s1_0 s1_1 s1_2 s1_3 s1_4 s1_5 = some (r1, r2, r3, r4, r5, r6, r7)) :
    Calls Try.prog 121 #[.int .i64 a0, .pointer (some ⟨g, 0, none⟩)] w fun e w' => e = .returned (.bool r1) ∧ IsS24 w0 w' g r2 r3 r4 r5 r6 r7 ∧ Below w0.heap.size w0 w' ∧ KeepBut w w' g none := by
 have hu24 := Try.underlying24; have HI1 := aM_ hI; have HK := aM_ (KeepBut.refl w g none); have HL := aM_ hB.size; clear hI; have HW0 := aM_ hB.size; have HB := aM_ hB; clear hB; have H : ((dag_writes.f k s1_0 s1_1 s1_2 s1_3 s1_4 s1_5 a0).bind fun t133 => (some (t133, s1_0, s1_1, s1_2, s1_3, s1_4, s1_5))) = some (r1, r2, r3, r4, r5, r6, r7) := h; clear h; obtain ⟨t133, A3, H⟩ := oB_ H; simp only [Option.some.injEq, Prod.mk.injEq] at H; obtain ⟨rfl, rfl, rfl, rfl, rfl, rfl, rfl⟩ := H; obtain ⟨HGz4, hgz4⟩ := HI1.out; have hcz4_0 := cellS24_0 HGz4; have hcz4_1 := cellS24_1 HGz4; have hcz4_2 := cellS24_2 HGz4; have hcz4_3 := cellS24_3 HGz4; have hcz4_4 := cellS24_4 HGz4; have hcz4_5 := cellS24_5 HGz4; have hfz4_0 := bZ_ HGz4 0; have hfz4_1 := bZ_ HGz4 1; have hfz4_2 := bZ_ HGz4 2; have hfz4_3 := bZ_ HGz4 3; have hfz4_4 := bZ_ HGz4 4; have hfz4_5 := bZ_ HGz4 5; clear HGz4 hgz4; go_enter Try.func121, Try.ntmps121
 go_wp2_with (first | ((with_reducible refine gC_ (f := 115) rfl ?_); refine gL_ (some 6) Try.func115 #[.agg #[.int .i64 s1_0, .int .i64 s1_1, .int .i64 s1_2, .int .i64 s1_3, .int .i64 s1_4, .string s1_5], .int .i64 a0] rfl ?_; (with_reducible refine (dag_writes.calls k s1_0 s1_1 s1_2 s1_3 s1_4 s1_5 a0 t133 _ A3.out).mono ?_); rintro e w5 ⟨rfl, hb⟩; refine ⟨_, rfl, ?_⟩; replace HK := aM_ (KeepBut.trans (by repeat (first | (with_reducible first | exact HK.out | apply KeepBut.set_ | apply keep_drewN | apply keep_drew | apply keep_alloc) | exact HK.out)) (KeepBut.of_below hb g none) (.inl rfl)); replace HB := aM_ (bT_ (by repeat (first | (with_reducible first | exact HB.out | apply bA_ | apply bN_ | apply b1_ | refine bS_ ?_ (IsS24.ge HI1.out)) | exact HB.out)) hb); replace HI1 := aM_ (IsS24.below (by repeat (first | (with_reducible first | exact HI1.out | apply IsS24.alloc | apply IsS24.drewN | apply IsS24.drew | apply IsS24.set_0 | apply IsS24.set_1 | apply IsS24.set_2 | apply IsS24.set_3 | apply IsS24.set_4 | apply IsS24.set_5) | exact HI1.out)) hb)))
 go_ret; exact ⟨eR_, by repeat (first | (with_reducible first | exact HI1.out | apply IsS24.alloc | apply IsS24.drewN | apply IsS24.drew | apply IsS24.set_0 | apply IsS24.set_1 | apply IsS24.set_2 | apply IsS24.set_3 | apply IsS24.set_4 | apply IsS24.set_5) | exact HI1.out), by repeat (first | (with_reducible first | exact HB.out | apply bA_ | apply bN_ | apply b1_ | refine bS_ ?_ (IsS24.ge HI1.out)) | exact HB.out), by repeat (first | (with_reducible first | exact HK.out | apply KeepBut.set_ | apply keep_drewN | apply keep_drew | apply keep_alloc) | exact HK.out)⟩
def sI_121.l0 : Nat → List Int → Int → Int → Int → Int → Int → Int → Int → ByteArray → Option (Int × Int × Int × Int × Int × Int × ByteArray)
  | 0, _, _, _, _, _, _, _, _, _ => none
  | k + 1, x0, x7, x8, x2000, x2001, x2002, x2003, x2004, x2005 => if x8 < x7 then (if 0 ≤ x8 then (if x8 < (x0.length : Int) then ((dag_reads_1.f k (rd x0 x8) x2000 x2001 x2002 x2003 x2004 x2005).bind fun bt135 => (if bt135.1 = true then (some (x8, bt135.2.1, bt135.2.2.1, bt135.2.2.2.1, bt135.2.2.2.2.1, bt135.2.2.2.2.2.1, bt135.2.2.2.2.2.2)) else (sI_121.l0 k x0 x7 (wrap64 (x8 + 1)) bt135.2.1 bt135.2.2.1 bt135.2.2.2.1 bt135.2.2.2.2.1 bt135.2.2.2.2.2.1 bt135.2.2.2.2.2.2))) else (none)) else (none)) else (some ((-1), x2000, x2001, x2002, x2003, x2004, x2005))
def sI_121.f (k : Nat) (l0 : List Int) (s1_0 : Int) (s1_1 : Int) (s1_2 : Int) (s1_3 : Int) (s1_4 : Int) (s1_5 : ByteArray) : Option (Int × Int × Int × Int × Int × Int × ByteArray) := sI_121.l0 k l0 (l0.length : Int) 0 s1_0 s1_1 s1_2 s1_3 s1_4 s1_5
theorem sI_121.calls (k : Nat) (A0 : Option Addr) (c0 : Nat) (l0 : List Int) (g : Nat) (s1_0 : Int) (s1_1 : Int) (s1_2 : Int) (s1_3 : Int) (s1_4 : Int) (s1_5 : ByteArray) (r1 : Int) (r2 : Int) (r3 : Int) (r4 : Int) (r5 : Int) (r6 : Int) (r7 : ByteArray) (w0 w : World) (hI : IsS24 w0 w g s1_0 s1_1 s1_2 s1_3 s1_4 s1_5) (hB : Below w0.heap.size w0 w) (hr0 : Kd.C (Kd.int .i64) w A0 l0.length l0) (hc0 : l0.length ≤ c0) (hf0 : ∀ ad, A0 = some ad → 0 < l0.length → ad.block ≠ g) (h : sI_121.f k l0 s1_0 s1_1 s1_2 s1_3 s1_4 s1_5 = some (r1, r2, r3, r4, r5, r6, r7)) :
    Calls Try.prog 95 #[.slice A0 l0.length c0, .func (.func 121) #[] #[.pointer (some ⟨g, 0, none⟩)]] w fun e w' => e = .returned (.int .i64 r1) ∧ IsS24 w0 w' g r2 r3 r4 r5 r6 r7 ∧ Below w0.heap.size w0 w' ∧ KeepBut w w' g none := by
 have HR0 := aM_ hr0; have HC0 := aM_ hc0; clear hr0 hc0; have HI1 := aM_ hI; have HK := aM_ (KeepBut.refl w g none); have HL := aM_ hB.size; clear hI; have HW0 := aM_ hB.size; have HB := aM_ hB; clear hB; have H : (sI_121.l0 k l0 (l0.length : Int) 0 s1_0 s1_1 s1_2 s1_3 s1_4 s1_5) = some (r1, r2, r3, r4, r5, r6, r7) := h; clear h; replace H := aM_ H; go_enter Try.func95, Try.ntmps95; go_wp2
 go_loopg [8] k (fun kq v8 w' => ∃ (x8_1 : Int) (x2000_1 : Int) (x2001_1 : Int) (x2002_1 : Int) (x2003_1 : Int) (x2004_1 : Int) (x2005_1 : ByteArray), v8 = .int .i64 x8_1 ∧ As_ (sI_121.l0 kq l0 (l0.length : Int) x8_1 x2000_1 x2001_1 x2002_1 x2003_1 x2004_1 x2005_1 = some (r1, r2, r3, r4, r5, r6, r7)) ∧ As_ (kq ≤ k) ∧ As_ (IsS24 w0 w' g x2000_1 x2001_1 x2002_1 x2003_1 x2004_1 x2005_1) ∧ As_ (KeepBut w w' g none) ∧ As_ (Below w0.heap.size w0 w'))
 case atStart => exact ⟨(0), (s1_0), (s1_1), (s1_2), (s1_3), (s1_4), (s1_5), eQ_, H, ⟨Nat.le_refl _⟩, ⟨by repeat (first | (with_reducible first | exact HI1.out | apply IsS24.alloc | apply IsS24.drewN | apply IsS24.drew | apply IsS24.set_0 | apply IsS24.set_1 | apply IsS24.set_2 | apply IsS24.set_3 | apply IsS24.set_4 | apply IsS24.set_5) | exact HI1.out)⟩, ⟨by repeat (first | (with_reducible first | exact HK.out | apply KeepBut.set_ | apply keep_drewN | apply keep_drew | apply keep_alloc) | exact HK.out)⟩, ⟨by repeat (first | (with_reducible first | exact HB.out | apply bA_ | apply bN_ | apply b1_ | refine bS_ ?_ (IsS24.ge HI1.out)) | exact HB.out)⟩⟩
 case round =>
  clear H; obtain ⟨x8_1, x2000_1, x2001_1, x2002_1, x2003_1, x2004_1, x2005_1, rfl, HA, HK1, HI1, HK, HB⟩ := hrel
  cases gk with
  | zero => exact absurd HA.out (by simp [sI_121.l0])
  | succ k1 =>
   have H := HA.out; clear HA; simp only [sI_121.l0] at H
   by_cases c3 : x8_1 < (l0.length : Int)
   ·rw [if_pos c3] at H; have c3b0 := dE_ c3; clear c3
    by_cases c4 : 0 ≤ x8_1
    ·rw [if_pos c4] at H; have c4b0 := dE_ c4; clear c4
     by_cases c5 : x8_1 < (l0.length : Int)
     ·rw [if_pos c5] at H; have c5b0 := dE_ c5; clear c5; replace H := oB_ H; obtain ⟨⟨t135, t136, t137, t138, t139, t140, t141⟩, A6, H⟩ := H; replace H : (if t135 = true then (some (x8_1, t136, t137, t138, t139, t140, t141)) else (sI_121.l0 k1 l0 (l0.length : Int) (wrap64 (x8_1 + 1)) t136 t137 t138 t139 t140 t141)) = some (r1, r2, r3, r4, r5, r6, r7) := H
      by_cases c7 : t135 = true
      ·subst c7; have H1 : (some (x8_1, t136, t137, t138, t139, t140, t141)) = some (r1, r2, r3, r4, r5, r6, r7) := by rw [if_pos rfl] at H; exact H
       clear H; have H := H1; clear H1; simp only [Option.some.injEq, Prod.mk.injEq] at H; obtain ⟨rfl, rfl, rfl, rfl, rfl, rfl, rfl⟩ := H; have p134 : 0 ≤ (x8_1 : Int) := oD_; have q134 : x8_1 < (l0.length : Int) := oD_; obtain ⟨ad134, e134, hx134_0⟩ := Kd.at_int HR0.out x8_1 p134 q134
       cases e134
       replace hx134_0 := keep_cell HK.out hx134_0 (by first | (rw [add_block]; exact hf0 _ rfl (by omega)) | exact hf0 _ rfl (by omega) | exact hf0 ad134 rfl (by omega)); replace p134 := eq_true p134; replace q134 := eq_true q134
       go_wp2_with (first | (go_at_call 121; (with_reducible refine (dag_reads_1.calls k1 (rd l0 x8_1) g x2000_1 x2001_1 x2002_1 x2003_1 x2004_1 x2005_1 true t136 t137 t138 t139 t140 t141 w0 _ ?side1 ?side2 A6.out).mono ?_); (case side1 => repeat (first | (with_reducible first | exact HI1.out | apply IsS24.alloc | apply IsS24.drewN | apply IsS24.drew | apply IsS24.set_0 | apply IsS24.set_1 | apply IsS24.set_2 | apply IsS24.set_3 | apply IsS24.set_4 | apply IsS24.set_5) | exact HI1.out)); (case side2 => repeat (first | (with_reducible first | exact HB.out | apply bA_ | apply bN_ | apply b1_ | refine bS_ ?_ (IsS24.ge HI1.out)) | exact HB.out)); rintro e w8 ⟨rfl, hi, hb, hk⟩; replace HK := aM_ (KeepBut.trans (by repeat (first | (with_reducible first | exact HK.out | apply KeepBut.set_ | apply keep_drewN | apply keep_drew | apply keep_alloc) | exact HK.out)) hk (.inl rfl)); replace HB := aM_ (hb); replace HI1 := aM_ (hi)))
       go_ret; exact ⟨eR_, by repeat (first | (with_reducible first | exact HI1.out | apply IsS24.alloc | apply IsS24.drewN | apply IsS24.drew | apply IsS24.set_0 | apply IsS24.set_1 | apply IsS24.set_2 | apply IsS24.set_3 | apply IsS24.set_4 | apply IsS24.set_5) | exact HI1.out), by repeat (first | (with_reducible first | exact HB.out | apply bA_ | apply bN_ | apply b1_ | refine bS_ ?_ (IsS24.ge HI1.out)) | exact HB.out), by repeat (first | (with_reducible first | exact HK.out | apply KeepBut.set_ | apply keep_drewN | apply keep_drew | apply keep_alloc) | exact HK.out)⟩
      replace c7 := eF_ c7; subst c7; have H1 : (sI_121.l0 k1 l0 (l0.length : Int) (wrap64 (x8_1 + 1)) t136 t137 t138 t139 t140 t141) = some (r1, r2, r3, r4, r5, r6, r7) := by rw [if_neg (show ¬ (false = true) by decide)] at H; exact H
      clear H; have H := H1; clear H1; replace H := aM_ H; have p134 : 0 ≤ (x8_1 : Int) := oD_; have q134 : x8_1 < (l0.length : Int) := oD_; obtain ⟨ad134, e134, hx134_0⟩ := Kd.at_int HR0.out x8_1 p134 q134
      cases e134
      replace hx134_0 := keep_cell HK.out hx134_0 (by first | (rw [add_block]; exact hf0 _ rfl (by omega)) | exact hf0 _ rfl (by omega) | exact hf0 ad134 rfl (by omega)); replace p134 := eq_true p134; replace q134 := eq_true q134
      go_wp2_with (first | (go_at_call 121; (with_reducible refine (dag_reads_1.calls k1 (rd l0 x8_1) g x2000_1 x2001_1 x2002_1 x2003_1 x2004_1 x2005_1 false t136 t137 t138 t139 t140 t141 w0 _ ?side1 ?side2 A6.out).mono ?_); (case side1 => repeat (first | (with_reducible first | exact HI1.out | apply IsS24.alloc | apply IsS24.drewN | apply IsS24.drew | apply IsS24.set_0 | apply IsS24.set_1 | apply IsS24.set_2 | apply IsS24.set_3 | apply IsS24.set_4 | apply IsS24.set_5) | exact HI1.out)); (case side2 => repeat (first | (with_reducible first | exact HB.out | apply bA_ | apply bN_ | apply b1_ | refine bS_ ?_ (IsS24.ge HI1.out)) | exact HB.out)); rintro e w9 ⟨rfl, hi, hb, hk⟩; replace HK := aM_ (KeepBut.trans (by repeat (first | (with_reducible first | exact HK.out | apply KeepBut.set_ | apply keep_drewN | apply keep_drew | apply keep_alloc) | exact HK.out)) hk (.inl rfl)); replace HB := aM_ (hb); replace HI1 := aM_ (hi)))
      go_roundg k1
      case measure => have := HK1.out; omega
      case rel => exact ⟨(wrap64 (x8_1 + 1)), (t136), (t137), (t138), (t139), (t140), (t141), eQ_, H, ⟨by have := HK1.out; omega⟩, ⟨by repeat (first | (with_reducible first | exact HI1.out | apply IsS24.alloc | apply IsS24.drewN | apply IsS24.drew | apply IsS24.set_0 | apply IsS24.set_1 | apply IsS24.set_2 | apply IsS24.set_3 | apply IsS24.set_4 | apply IsS24.set_5) | exact HI1.out)⟩, ⟨by repeat (first | (with_reducible first | exact HK.out | apply KeepBut.set_ | apply keep_drewN | apply keep_drew | apply keep_alloc) | exact HK.out)⟩, ⟨by repeat (first | (with_reducible first | exact HB.out | apply bA_ | apply bN_ | apply b1_ | refine bS_ ?_ (IsS24.ge HI1.out)) | exact HB.out)⟩⟩
     rw [if_neg c5] at H; exact absurd H (by simp)
    rw [if_neg c4] at H; exact absurd H (by simp)
   rw [if_neg c3] at H; have c3b0 := dF_ c3; clear c3; simp only [Option.some.injEq, Prod.mk.injEq] at H; obtain ⟨rfl, rfl, rfl, rfl, rfl, rfl, rfl⟩ := H; go_wp2; go_ret; exact ⟨eR_, by repeat (first | (with_reducible first | exact HI1.out | apply IsS24.alloc | apply IsS24.drewN | apply IsS24.drew | apply IsS24.set_0 | apply IsS24.set_1 | apply IsS24.set_2 | apply IsS24.set_3 | apply IsS24.set_4 | apply IsS24.set_5) | exact HI1.out), by repeat (first | (with_reducible first | exact HB.out | apply bA_ | apply bN_ | apply b1_ | refine bS_ ?_ (IsS24.ge HI1.out)) | exact HB.out), by repeat (first | (with_reducible first | exact HK.out | apply KeepBut.set_ | apply keep_drewN | apply keep_drew | apply keep_alloc) | exact HK.out)⟩
def sC_121.f (k : Nat) (l0 : List Int) (s1_0 : Int) (s1_1 : Int) (s1_2 : Int) (s1_3 : Int) (s1_4 : Int) (s1_5 : ByteArray) : Option (Bool × Int × Int × Int × Int × Int × ByteArray) := (sI_121.f k l0 s1_0 s1_1 s1_2 s1_3 s1_4 s1_5).bind fun bt142 => (some (decide (bt142.1 ≥ 0), bt142.2.1, bt142.2.2.1, bt142.2.2.2.1, bt142.2.2.2.2.1, bt142.2.2.2.2.2.1, bt142.2.2.2.2.2.2))
theorem sC_121.calls (k : Nat) (A0 : Option Addr) (c0 : Nat) (l0 : List Int) (g : Nat) (s1_0 : Int) (s1_1 : Int) (s1_2 : Int) (s1_3 : Int) (s1_4 : Int) (s1_5 : ByteArray) (r1 : Bool) (r2 : Int) (r3 : Int) (r4 : Int) (r5 : Int) (r6 : Int) (r7 : ByteArray) (w0 w : World) (hI : IsS24 w0 w g s1_0 s1_1 s1_2 s1_3 s1_4 s1_5) (hB : Below w0.heap.size w0 w) (hr0 : Kd.C (Kd.int .i64) w A0 l0.length l0) (hc0 : l0.length ≤ c0) (hf0 : ∀ ad, A0 = some ad → 0 < l0.length → ad.block ≠ g) (h : sC_121.f k l0 s1_0 s1_1 s1_2 s1_3 s1_4 s1_5 = some (r1, r2, r3, r4, r5, r6, r7)) :
    Calls Try.prog 62 #[.slice A0 l0.length c0, .func (.func 121) #[] #[.pointer (some ⟨g, 0, none⟩)]] w fun e w' => e = .returned (.bool r1) ∧ IsS24 w0 w' g r2 r3 r4 r5 r6 r7 ∧ Below w0.heap.size w0 w' ∧ KeepBut w w' g none := by
 have HR0 := aM_ hr0; have HC0 := aM_ hc0; clear hr0 hc0; have HI1 := aM_ hI; have HK := aM_ (KeepBut.refl w g none); have HL := aM_ hB.size; clear hI; have HW0 := aM_ hB.size; have HB := aM_ hB; clear hB; have H : ((sI_121.f k l0 s1_0 s1_1 s1_2 s1_3 s1_4 s1_5).bind fun bt142 => (some (decide (bt142.1 ≥ 0), bt142.2.1, bt142.2.2.1, bt142.2.2.2.1, bt142.2.2.2.2.1, bt142.2.2.2.2.2.1, bt142.2.2.2.2.2.2))) = some (r1, r2, r3, r4, r5, r6, r7) := h; clear h; replace H := oB_ H; obtain ⟨⟨t142, t143, t144, t145, t146, t147, t148⟩, A3, H⟩ := H; replace H : (some (decide (t142 ≥ 0), t143, t144, t145, t146, t147, t148)) = some (r1, r2, r3, r4, r5, r6, r7) := H; simp only [Option.some.injEq, Prod.mk.injEq] at H; obtain ⟨rfl, rfl, rfl, rfl, rfl, rfl, rfl⟩ := H; go_enter Try.func62, Try.ntmps62
 go_wp2_with (first | ((with_reducible refine gC_ (f := 95) rfl ?_); refine gL_ (some 7) Try.func95 #[.slice A0 l0.length c0, .func (.func 121) #[] #[.pointer (some ⟨g, 0, none⟩)]] rfl ?_; (with_reducible refine (sI_121.calls k _ _ l0 g s1_0 s1_1 s1_2 s1_3 s1_4 s1_5 t142 t143 t144 t145 t146 t147 t148 w0 _ ?side1 ?side2 ?side3 ?side4 ?side5 A3.out).mono ?_); (case side1 => repeat (first | (with_reducible first | exact HI1.out | apply IsS24.alloc | apply IsS24.drewN | apply IsS24.drew | apply IsS24.set_0 | apply IsS24.set_1 | apply IsS24.set_2 | apply IsS24.set_3 | apply IsS24.set_4 | apply IsS24.set_5) | exact HI1.out)); (case side2 => repeat (first | (with_reducible first | exact HB.out | apply bA_ | apply bN_ | apply b1_ | refine bS_ ?_ (IsS24.ge HI1.out)) | exact HB.out)); (case side3 => exact Kd.C_keep 0 HR0.out (by repeat (first | (with_reducible first | exact HK.out | apply KeepBut.set_ | apply keep_drewN | apply keep_drew | apply keep_alloc) | exact HK.out)) hf0); (case side4 => exact HC0.out); (case side5 => exact hf0); rintro e w4 ⟨rfl, hi, hb, hk⟩; refine ⟨_, rfl, ?_⟩; replace HK := aM_ (KeepBut.trans (by repeat (first | (with_reducible first | exact HK.out | apply KeepBut.set_ | apply keep_drewN | apply keep_drew | apply keep_alloc) | exact HK.out)) hk (.inl rfl)); replace HB := aM_ (hb); replace HI1 := aM_ (hi)))
 go_ret; exact ⟨eR_, by repeat (first | (with_reducible first | exact HI1.out | apply IsS24.alloc | apply IsS24.drewN | apply IsS24.drew | apply IsS24.set_0 | apply IsS24.set_1 | apply IsS24.set_2 | apply IsS24.set_3 | apply IsS24.set_4 | apply IsS24.set_5) | exact HI1.out), by repeat (first | (with_reducible first | exact HB.out | apply bA_ | apply bN_ | apply b1_ | refine bS_ ?_ (IsS24.ge HI1.out)) | exact HB.out), by repeat (first | (with_reducible first | exact HK.out | apply KeepBut.set_ | apply keep_drewN | apply keep_drew | apply keep_alloc) | exact HK.out)⟩
end
end Go.Proofs.Ytibfkkjkahpobaa.PDag
