import Derived.Test.YtibfkkjkahpobaaGreatOf15
set_option linter.unusedVariables false
set_option linter.unusedSimpArgs false
set_option maxHeartbeats 8000000
set_option maxRecDepth 100000
open Go.RowKit Go.Proofs.YtibfkkjkahpobaaGreatW.PrintWords Go.Proofs.YtibfkkjkahpobaaGreatW.PrintLast Go.Proofs.YtibfkkjkahpobaaGreatW.PrintMore
namespace Go.Proofs.YtibfkkjkahpobaaGreat.PDag
section
attribute [local go_sem] max2_int min2_int max_two min_two max_three min_three max_four min_four
mutual
def isa_Shape.j0 : Nat → Int → Bool → Option (Int)
  | 0, _, _ => none
  | k + 1, x3, x6 => if x6 = true then (some 3) else (if x3 = 23 then (some 4) else (if x3 = 25 then (some 5) else (if x3 = 26 then (some 6) else (if x3 = 27 then (some 7) else (if x3 = 28 then (isa_Shape.j1 k x3 (x3 == 28)) else (isa_Shape.j1 k x3 (x3 == 31)))))))
def isa_Shape.j1 : Nat → Int → Bool → Option (Int)
  | 0, _, _ => none
  | k + 1, x3, x17 => if x17 = true then (some 8) else (if x3 = 29 then (isa_Shape.j2 k x3 (x3 == 29)) else (isa_Shape.j2 k x3 (x3 == 30)))
def isa_Shape.j2 : Nat → Int → Bool → Option (Int)
  | 0, _, _ => none
  | k + 1, x3, x20 => if x20 = true then (some 9) else (if x3 = 0 then (isa_Shape.j3 k (x3 == 0)) else (if x3 = 32 then (isa_Shape.j3 k (x3 == 32)) else (isa_Shape.j3 k (x3 == 33))))
def isa_Shape.j3 : Nat → Bool → Option (Int)
  | 0, _ => none
  | k + 1, x23 => if x23 = true then (some 0) else (some 1)
end
def isa_Shape.f (k : Nat) (a0 : Int) : Option (Int) := if a0 = 21 then (some 2) else (if a0 = 22 then (isa_Shape.j0 k a0 (a0 == 22)) else (isa_Shape.j0 k a0 (a0 == 24)))
theorem isa_Shape.mono_l : ∀ k, (∀ y0 y1, LeO (isa_Shape.j0 k y0 y1) (isa_Shape.j0 (k + 1) y0 y1)) ∧ (∀ y0 y1, LeO (isa_Shape.j1 k y0 y1) (isa_Shape.j1 (k + 1) y0 y1)) ∧ (∀ y0 y1, LeO (isa_Shape.j2 k y0 y1) (isa_Shape.j2 (k + 1) y0 y1)) ∧ (∀ y0, LeO (isa_Shape.j3 k y0) (isa_Shape.j3 (k + 1) y0))
  | 0 => ⟨fun _ _ r h => by simp [isa_Shape.j0] at h, fun _ _ r h => by simp [isa_Shape.j1] at h, fun _ _ r h => by simp [isa_Shape.j2] at h, fun _ r h => by simp [isa_Shape.j3] at h⟩
  | k + 1 => by
    obtain ⟨ih0, ih1, ih2, ih3⟩ := isa_Shape.mono_l k; refine ⟨?_, ?_, ?_, ?_⟩
    · intro y0 y1; unfold isa_Shape.j0
      repeat' first
      | (with_reducible exact ih0 _ _)
      | (with_reducible exact ih1 _ _)
      | (with_reducible exact ih2 _ _)
      | (with_reducible exact ih3 _)
      | (with_reducible exact LeO.refl _)
      | (with_reducible exact LeO.none _)
      | (with_reducible refine LeO.ite ?_ ?_)
      | (with_reducible refine LeO.bind ?_ (fun _ => ?_))
      | exact LeO.none _
      | refine LeO.ite ?_ ?_
      | refine LeO.bind ?_ (fun _ => ?_)
    · intro y0 y1; unfold isa_Shape.j1
      repeat' first
      | (with_reducible exact ih0 _ _)
      | (with_reducible exact ih1 _ _)
      | (with_reducible exact ih2 _ _)
      | (with_reducible exact ih3 _)
      | (with_reducible exact LeO.refl _)
      | (with_reducible exact LeO.none _)
      | (with_reducible refine LeO.ite ?_ ?_)
      | (with_reducible refine LeO.bind ?_ (fun _ => ?_))
      | exact LeO.none _
      | refine LeO.ite ?_ ?_
      | refine LeO.bind ?_ (fun _ => ?_)
    · intro y0 y1; unfold isa_Shape.j2
      repeat' first
      | (with_reducible exact ih0 _ _)
      | (with_reducible exact ih1 _ _)
      | (with_reducible exact ih2 _ _)
      | (with_reducible exact ih3 _)
      | (with_reducible exact LeO.refl _)
      | (with_reducible exact LeO.none _)
      | (with_reducible refine LeO.ite ?_ ?_)
      | (with_reducible refine LeO.bind ?_ (fun _ => ?_))
      | exact LeO.none _
      | refine LeO.ite ?_ ?_
      | refine LeO.bind ?_ (fun _ => ?_)
    · intro y0; unfold isa_Shape.j3
      repeat' first
      | (with_reducible exact ih0 _ _)
      | (with_reducible exact ih1 _ _)
      | (with_reducible exact ih2 _ _)
      | (with_reducible exact ih3 _)
      | (with_reducible exact LeO.refl _)
      | (with_reducible exact LeO.none _)
      | (with_reducible refine LeO.ite ?_ ?_)
      | (with_reducible refine LeO.bind ?_ (fun _ => ?_))
      | exact LeO.none _
      | refine LeO.ite ?_ ?_
      | refine LeO.bind ?_ (fun _ => ?_)
theorem isa_Shape.mono : ∀ a0 k, LeO (isa_Shape.f k a0) (isa_Shape.f (k + 1) a0) := by
 intro a0 k; obtain ⟨ih0, ih1, ih2, ih3⟩ := isa_Shape.mono_l k; unfold isa_Shape.f
 repeat' first
  | (with_reducible exact ih0 _ _)
  | (with_reducible exact ih1 _ _)
  | (with_reducible exact ih2 _ _)
  | (with_reducible exact ih3 _)
  | (with_reducible exact LeO.refl _)
  | (with_reducible exact LeO.none _)
  | (with_reducible refine LeO.ite ?_ ?_)
  | (with_reducible refine LeO.bind ?_ (fun _ => ?_))
  | exact LeO.none _
  | refine LeO.ite ?_ ?_
  | refine LeO.bind ?_ (fun _ => ?_)
theorem isa_Shape.calls (k : Nat) (a0 : Int) (r : Int) (w : World) (h : isa_Shape.f k a0 = some r) :
    Calls Tryz.prog 89 #[.int .i64 a0] w fun e w' => e = .returned (.int .i64 r) ∧ Dr_ w w' := by
 have H : (if a0 = 21 then (some 2) else (if a0 = 22 then (isa_Shape.j0 k a0 (a0 == 22)) else (isa_Shape.j0 k a0 (a0 == 24)))) = some r := h; clear h
 by_cases c2 : a0 = 21
 ·rw [if_pos c2] at H; have c2b0 := bH_ c2; have c2b1 := bF_ c2; clear c2; obtain rfl := oI_ H; go_enter Tryz.func89, Tryz.ntmps89; go_wp2; go_ret; exact ⟨eQ_, dR_⟩
 rw [if_neg c2] at H; have c2b0 := bE_ c2; have c2b1 := bG_ c2; have HC3 := aM_ H; clear H; go_enter Tryz.func89, Tryz.ntmps89
 go_upto_if 6 with (fail)
 go_cut [6] (fun v6 wc => ∃ (kq : Nat) (x6_2 : Bool), v6 = .bool x6_2 ∧ As_ (isa_Shape.j0 kq a0 x6_2 = some r) ∧ As_ (kq ≤ k) ∧ Dr_ w wc)
 case first =>
  have H := HC3.out; clear HC3
  by_cases c4 : a0 = 22
  ·rw [if_pos c4] at H; have c4b0 := bH_ c4; have c4b1 := bF_ c4; clear c4
   (first | rw [c4b0] | (simp only [i64_w, i32_w]; rw [c4b0]) | skip)
   replace H := aM_ H; go_wp2
   go_meet
   case rel => exact ⟨_, ((a0 == 22)), eQ_, H, ⟨by first | omega | exact Nat.le_refl _⟩, dR_⟩
  rw [if_neg c4] at H; have c4b0 := bE_ c4; have c4b1 := bG_ c4
  (first | rw [c4b0] | (simp only [i64_w, i32_w]; rw [c4b0]) | skip)
  replace H := aM_ H; go_wp2
  go_meet
  case rel => exact ⟨_, ((a0 == 24)), eQ_, H, ⟨by first | omega | exact Nat.le_refl _⟩, dR_⟩
 case rest =>
  clear HC3; obtain ⟨kq, x6_2, rfl, HA, HJ2, ⟨mc2, rfl⟩⟩ := hcut
  cases kq with
  | zero => exact absurd HA.out (by simp [isa_Shape.j0])
  | succ kj2 =>
   have H := HA.out; clear HA; simp only [isa_Shape.j0] at H
   by_cases c5 : x6_2 = true
   ·subst c5; rw [if_pos rfl] at H; obtain rfl := oI_ H; go_wp2; go_ret; exact ⟨eQ_, dR_⟩
   replace c5 := eF_ c5; subst c5; rw [if_neg Bool.false_ne_true] at H
   by_cases c6 : a0 = 23
   ·rw [if_pos c6] at H; have c6b0 := bH_ c6; have c6b1 := bF_ c6; clear c6; obtain rfl := oI_ H; go_wp2; go_ret; exact ⟨eQ_, dR_⟩
   rw [if_neg c6] at H; have c6b0 := bE_ c6; have c6b1 := bG_ c6
   by_cases c7 : a0 = 25
   ·rw [if_pos c7] at H; have c7b0 := bH_ c7; have c7b1 := bF_ c7; clear c7; obtain rfl := oI_ H; go_wp2; go_ret; exact ⟨eQ_, dR_⟩
   rw [if_neg c7] at H; have c7b0 := bE_ c7; have c7b1 := bG_ c7
   by_cases c8 : a0 = 26
   ·rw [if_pos c8] at H; have c8b0 := bH_ c8; have c8b1 := bF_ c8; clear c8; obtain rfl := oI_ H; go_wp2; go_ret; exact ⟨eQ_, dR_⟩
   rw [if_neg c8] at H; have c8b0 := bE_ c8; have c8b1 := bG_ c8
   by_cases c9 : a0 = 27
   ·rw [if_pos c9] at H; have c9b0 := bH_ c9; have c9b1 := bF_ c9; clear c9; obtain rfl := oI_ H; go_wp2; go_ret; exact ⟨eQ_, dR_⟩
   rw [if_neg c9] at H; have c9b0 := bE_ c9; have c9b1 := bG_ c9; have HC10 := aM_ H; clear H
   go_upto_if 17 with (fail)
   go_cut [17] (fun v17 wc => ∃ (kq : Nat) (x17_9 : Bool), v17 = .bool x17_9 ∧ As_ (isa_Shape.j1 kq a0 x17_9 = some r) ∧ As_ (kq ≤ kj2) ∧ Dr_ w wc)
   case first =>
    have H := HC10.out; clear HC10
    by_cases c11 : a0 = 28
    ·rw [if_pos c11] at H; have c11b0 := bH_ c11; have c11b1 := bF_ c11; clear c11
     (first | rw [c11b0] | (simp only [i64_w, i32_w]; rw [c11b0]) | skip)
     replace H := aM_ H; go_wp2
     go_meet
     case rel => exact ⟨_, ((a0 == 28)), eQ_, H, ⟨by have := HJ2.out; first | omega | exact Nat.le_refl _⟩, dR_⟩
    rw [if_neg c11] at H; have c11b0 := bE_ c11; have c11b1 := bG_ c11
    (first | rw [c11b0] | (simp only [i64_w, i32_w]; rw [c11b0]) | skip)
    replace H := aM_ H; go_wp2
    go_meet
    case rel => exact ⟨_, ((a0 == 31)), eQ_, H, ⟨by have := HJ2.out; first | omega | exact Nat.le_refl _⟩, dR_⟩
   case rest =>
    clear HC10; obtain ⟨kq, x17_9, rfl, HA, HJ9, ⟨mc9, rfl⟩⟩ := hcut
    cases kq with
    | zero => exact absurd HA.out (by simp [isa_Shape.j1])
    | succ kj9 =>
     have H := HA.out; clear HA; simp only [isa_Shape.j1] at H
     by_cases c12 : x17_9 = true
     ·subst c12; rw [if_pos rfl] at H; obtain rfl := oI_ H; go_wp2; go_ret; exact ⟨eQ_, dR_⟩
     replace c12 := eF_ c12; subst c12; rw [if_neg Bool.false_ne_true] at H; have HC13 := aM_ H; clear H
     go_upto_if 20 with (fail)
     go_cut [20] (fun v20 wc => ∃ (kq : Nat) (x20_12 : Bool), v20 = .bool x20_12 ∧ As_ (isa_Shape.j2 kq a0 x20_12 = some r) ∧ As_ (kq ≤ kj9) ∧ Dr_ w wc)
     case first =>
      have H := HC13.out; clear HC13
      by_cases c14 : a0 = 29
      ·rw [if_pos c14] at H; have c14b0 := bH_ c14; have c14b1 := bF_ c14; clear c14
       (first | rw [c14b0] | (simp only [i64_w, i32_w]; rw [c14b0]) | skip)
       replace H := aM_ H; go_wp2
       go_meet
       case rel => exact ⟨_, ((a0 == 29)), eQ_, H, ⟨by have := HJ2.out; have := HJ9.out; first | omega | exact Nat.le_refl _⟩, dR_⟩
      rw [if_neg c14] at H; have c14b0 := bE_ c14; have c14b1 := bG_ c14
      (first | rw [c14b0] | (simp only [i64_w, i32_w]; rw [c14b0]) | skip)
      replace H := aM_ H; go_wp2
      go_meet
      case rel => exact ⟨_, ((a0 == 30)), eQ_, H, ⟨by have := HJ2.out; have := HJ9.out; first | omega | exact Nat.le_refl _⟩, dR_⟩
     case rest =>
      clear HC13; obtain ⟨kq, x20_12, rfl, HA, HJ12, ⟨mc12, rfl⟩⟩ := hcut
      cases kq with
      | zero => exact absurd HA.out (by simp [isa_Shape.j2])
      | succ kj12 =>
       have H := HA.out; clear HA; simp only [isa_Shape.j2] at H
       by_cases c15 : x20_12 = true
       ·subst c15; rw [if_pos rfl] at H; obtain rfl := oI_ H; go_wp2; go_ret; exact ⟨eQ_, dR_⟩
       replace c15 := eF_ c15; subst c15; rw [if_neg Bool.false_ne_true] at H; have HC16 := aM_ H; clear H
       go_upto_if 23 with (fail)
       go_cut [23] (fun v23 wc => ∃ (kq : Nat) (x23_15 : Bool), v23 = .bool x23_15 ∧ As_ (isa_Shape.j3 kq x23_15 = some r) ∧ As_ (kq ≤ kj12) ∧ Dr_ w wc)
       case first =>
        have H := HC16.out; clear HC16
        by_cases c17 : a0 = 0
        ·rw [if_pos c17] at H; have c17b0 := bH_ c17; have c17b1 := bF_ c17; clear c17
         (first | rw [c17b0] | (simp only [i64_w, i32_w]; rw [c17b0]) | skip)
         replace H := aM_ H; go_wp2
         go_meet
         case rel => exact ⟨_, ((a0 == 0)), eQ_, H, ⟨by have := HJ2.out; have := HJ9.out; have := HJ12.out; first | omega | exact Nat.le_refl _⟩, dR_⟩
        rw [if_neg c17] at H; have c17b0 := bE_ c17; have c17b1 := bG_ c17
        (first | rw [c17b0] | (simp only [i64_w, i32_w]; rw [c17b0]) | skip)
        by_cases c18 : a0 = 32
        ·rw [if_pos c18] at H; have c18b0 := bH_ c18; have c18b1 := bF_ c18; clear c18; replace H := aM_ H; go_wp2
         go_meet
         case rel => exact ⟨_, ((a0 == 32)), eQ_, H, ⟨by have := HJ2.out; have := HJ9.out; have := HJ12.out; first | omega | exact Nat.le_refl _⟩, dR_⟩
        rw [if_neg c18] at H; have c18b0 := bE_ c18; have c18b1 := bG_ c18; replace H := aM_ H; go_wp2
        go_meet
        case rel => exact ⟨_, ((a0 == 33)), eQ_, H, ⟨by have := HJ2.out; have := HJ9.out; have := HJ12.out; first | omega | exact Nat.le_refl _⟩, dR_⟩
       case rest =>
        clear HC16; obtain ⟨kq, x23_15, rfl, HA, HJ15, ⟨mc15, rfl⟩⟩ := hcut
        cases kq with
        | zero => exact absurd HA.out (by simp [isa_Shape.j3])
        | succ kj15 =>
         have H := HA.out; clear HA; simp only [isa_Shape.j3] at H
         by_cases c19 : x23_15 = true
         ·subst c19; rw [if_pos rfl] at H; obtain rfl := oI_ H; go_wp2; go_ret; exact ⟨eQ_, dR_⟩
         replace c19 := eF_ c19; subst c19; rw [if_neg Bool.false_ne_true] at H; obtain rfl := oI_ H; go_wp2; go_ret; exact ⟨eQ_, dR_⟩
def isa_reg.f (a0 : Bool) (a1 : Int) : Option (Bool) := if a1 = 0 then (some true) else (if a0 = true then (if a1 > 0 then (some (decide (a1 < 16))) else (some false)) else (some false))
theorem isa_reg.calls (a0 : Bool) (a1 : Int) (r : Bool) (w : World) (h : isa_reg.f a0 a1 = some r) :
    Calls Tryz.prog 90 #[.bool a0, .int .i64 a1] w fun e w' => e = .returned (.bool r) ∧ Dr_ w w' := by
 have H : (if a1 = 0 then (some true) else (if a0 = true then (if a1 > 0 then (some (decide (a1 < 16))) else (some false)) else (some false))) = some r := h; clear h
 by_cases c3 : a1 = 0
 ·rw [if_pos c3] at H; have c3b0 := bH_ c3; have c3b1 := bF_ c3; clear c3; obtain rfl := oI_ H; go_enter Tryz.func90, Tryz.ntmps90; go_wp2; go_ret; exact ⟨eQ_, dR_⟩
 rw [if_neg c3] at H; have c3b0 := bE_ c3; have c3b1 := bG_ c3
 by_cases c4 : a0 = true
 ·subst c4; rw [if_pos rfl] at H
  by_cases c5 : a1 > 0
  ·rw [if_pos c5] at H; have c5b0 := dE_ c5; clear c5; obtain rfl := oI_ H; go_enter Tryz.func90, Tryz.ntmps90; go_wp2; go_ret; exact ⟨eQ_, dR_⟩
  rw [if_neg c5] at H; have c5b0 := dF_ c5; clear c5; obtain rfl := oI_ H; go_enter Tryz.func90, Tryz.ntmps90; go_wp2; go_ret; exact ⟨eQ_, dR_⟩
 replace c4 := eF_ c4; subst c4; rw [if_neg Bool.false_ne_true] at H; obtain rfl := oI_ H; go_enter Tryz.func90, Tryz.ntmps90; go_wp2; go_ret; exact ⟨eQ_, dR_⟩
def isa_HasD.f (a0 : Int) : Option (Bool) := if a0 ≥ 1 then (if a0 ≤ 4 then (some true) else (some (a0 == 6))) else (some (a0 == 6))
theorem isa_HasD.calls (a0 : Int) (r : Bool) (w : World) (h : isa_HasD.f a0 = some r) :
    Calls Tryz.prog 91 #[.int .i64 a0] w fun e w' => e = .returned (.bool r) ∧ Dr_ w w' := by
 have H : (if a0 ≥ 1 then (if a0 ≤ 4 then (some true) else (some (a0 == 6))) else (some (a0 == 6))) = some r := h; clear h
 by_cases c2 : a0 ≥ 1
 ·rw [if_pos c2] at H; have c2b0 := dE_ c2; clear c2
  by_cases c3 : a0 ≤ 4
  ·rw [if_pos c3] at H; have c3b0 := dE_ c3; clear c3; obtain rfl := oI_ H; go_enter Tryz.func91, Tryz.ntmps91; go_wp2; go_ret; exact ⟨eQ_, dR_⟩
  rw [if_neg c3] at H; have c3b0 := dF_ c3; clear c3; obtain rfl := oI_ H; go_enter Tryz.func91, Tryz.ntmps91; go_wp2; go_ret; exact ⟨eQ_, dR_⟩
 rw [if_neg c2] at H; have c2b0 := dF_ c2; clear c2; obtain rfl := oI_ H; go_enter Tryz.func91, Tryz.ntmps91; go_wp2; go_ret; exact ⟨eQ_, dR_⟩
def isa_HasA.j0 : Nat → Bool → Option (Bool)
  | 0, _ => none
  | k + 1, x4 => if x4 = true then (some true) else (some false)
def isa_HasA.f (k : Nat) (a0 : Int) : Option (Bool) := if a0 = 1 then (isa_HasA.j0 k (a0 == 1)) else (if a0 = 2 then (isa_HasA.j0 k (a0 == 2)) else (if a0 = 3 then (isa_HasA.j0 k (a0 == 3)) else (if a0 = 5 then (isa_HasA.j0 k (a0 == 5)) else (if a0 = 7 then (isa_HasA.j0 k (a0 == 7)) else (isa_HasA.j0 k (a0 == 9))))))
theorem isa_HasA.mono_l : ∀ k, (∀ y0, LeO (isa_HasA.j0 k y0) (isa_HasA.j0 (k + 1) y0))
  | 0 => fun _ r h => by simp [isa_HasA.j0] at h
  | k + 1 => by
    have ih0 := isa_HasA.mono_l k
    · intro y0; unfold isa_HasA.j0
      repeat' first
      | (with_reducible exact ih0 _)
      | (with_reducible exact LeO.refl _)
      | (with_reducible exact LeO.none _)
      | (with_reducible refine LeO.ite ?_ ?_)
      | (with_reducible refine LeO.bind ?_ (fun _ => ?_))
      | exact LeO.none _
      | refine LeO.ite ?_ ?_
      | refine LeO.bind ?_ (fun _ => ?_)
theorem isa_HasA.mono : ∀ a0 k, LeO (isa_HasA.f k a0) (isa_HasA.f (k + 1) a0) := by
 intro a0 k; have ih0 := isa_HasA.mono_l k; unfold isa_HasA.f
 repeat' first
  | (with_reducible exact ih0 _)
  | (with_reducible exact LeO.refl _)
  | (with_reducible exact LeO.none _)
  | (with_reducible refine LeO.ite ?_ ?_)
  | (with_reducible refine LeO.bind ?_ (fun _ => ?_))
  | exact LeO.none _
  | refine LeO.ite ?_ ?_
  | refine LeO.bind ?_ (fun _ => ?_)
theorem isa_HasA.calls (k : Nat) (a0 : Int) (r : Bool) (w : World) (h : isa_HasA.f k a0 = some r) :
    Calls Tryz.prog 92 #[.int .i64 a0] w fun e w' => e = .returned (.bool r) ∧ Dr_ w w' := by
 have H : (if a0 = 1 then (isa_HasA.j0 k (a0 == 1)) else (if a0 = 2 then (isa_HasA.j0 k (a0 == 2)) else (if a0 = 3 then (isa_HasA.j0 k (a0 == 3)) else (if a0 = 5 then (isa_HasA.j0 k (a0 == 5)) else (if a0 = 7 then (isa_HasA.j0 k (a0 == 7)) else (isa_HasA.j0 k (a0 == 9))))))) = some r := h; clear h; have HC2 := aM_ H; clear H; go_enter Tryz.func92, Tryz.ntmps92
 go_upto_if 4 with (fail)
 go_cut [4] (fun v4 wc => ∃ (kq : Nat) (x4_1 : Bool), v4 = .bool x4_1 ∧ As_ (isa_HasA.j0 kq x4_1 = some r) ∧ As_ (kq ≤ k) ∧ Dr_ w wc)
 case first =>
  have H := HC2.out; clear HC2
  by_cases c3 : a0 = 1
  ·rw [if_pos c3] at H; have c3b0 := bH_ c3; have c3b1 := bF_ c3; clear c3
   (first | rw [c3b0] | (simp only [i64_w, i32_w]; rw [c3b0]) | skip)
   replace H := aM_ H; go_wp2
   go_meet
   case rel => exact ⟨_, ((a0 == 1)), eQ_, H, ⟨by first | omega | exact Nat.le_refl _⟩, dR_⟩
  rw [if_neg c3] at H; have c3b0 := bE_ c3; have c3b1 := bG_ c3
  (first | rw [c3b0] | (simp only [i64_w, i32_w]; rw [c3b0]) | skip)
  by_cases c4 : a0 = 2
  ·rw [if_pos c4] at H; have c4b0 := bH_ c4; have c4b1 := bF_ c4; clear c4; replace H := aM_ H; go_wp2
   go_meet
   case rel => exact ⟨_, ((a0 == 2)), eQ_, H, ⟨by first | omega | exact Nat.le_refl _⟩, dR_⟩
  rw [if_neg c4] at H; have c4b0 := bE_ c4; have c4b1 := bG_ c4
  by_cases c5 : a0 = 3
  ·rw [if_pos c5] at H; have c5b0 := bH_ c5; have c5b1 := bF_ c5; clear c5; replace H := aM_ H; go_wp2
   go_meet
   case rel => exact ⟨_, ((a0 == 3)), eQ_, H, ⟨by first | omega | exact Nat.le_refl _⟩, dR_⟩
  rw [if_neg c5] at H; have c5b0 := bE_ c5; have c5b1 := bG_ c5
  by_cases c6 : a0 = 5
  ·rw [if_pos c6] at H; have c6b0 := bH_ c6; have c6b1 := bF_ c6; clear c6; replace H := aM_ H; go_wp2
   go_meet
   case rel => exact ⟨_, ((a0 == 5)), eQ_, H, ⟨by first | omega | exact Nat.le_refl _⟩, dR_⟩
  rw [if_neg c6] at H; have c6b0 := bE_ c6; have c6b1 := bG_ c6
  by_cases c7 : a0 = 7
  ·rw [if_pos c7] at H; have c7b0 := bH_ c7; have c7b1 := bF_ c7; clear c7; replace H := aM_ H; go_wp2
   go_meet
   case rel => exact ⟨_, ((a0 == 7)), eQ_, H, ⟨by first | omega | exact Nat.le_refl _⟩, dR_⟩
  rw [if_neg c7] at H; have c7b0 := bE_ c7; have c7b1 := bG_ c7; replace H := aM_ H; go_wp2
  go_meet
  case rel => exact ⟨_, ((a0 == 9)), eQ_, H, ⟨by first | omega | exact Nat.le_refl _⟩, dR_⟩
 case rest =>
  clear HC2; obtain ⟨kq, x4_1, rfl, HA, HJ1, ⟨mc1, rfl⟩⟩ := hcut
  cases kq with
  | zero => exact absurd HA.out (by simp [isa_HasA.j0])
  | succ kj1 =>
   have H := HA.out; clear HA; simp only [isa_HasA.j0] at H
   by_cases c8 : x4_1 = true
   ·subst c8; rw [if_pos rfl] at H; obtain rfl := oI_ H; go_wp2; go_ret; exact ⟨eQ_, dR_⟩
   replace c8 := eF_ c8; subst c8; rw [if_neg Bool.false_ne_true] at H; obtain rfl := oI_ H; go_wp2; go_ret; exact ⟨eQ_, dR_⟩
def isa_HasB.f (a0 : Int) : Option (Bool) := if a0 = 1 then (some true) else (some (a0 == 5))
theorem isa_HasB.calls (a0 : Int) (r : Bool) (w : World) (h : isa_HasB.f a0 = some r) :
    Calls Tryz.prog 93 #[.int .i64 a0] w fun e w' => e = .returned (.bool r) ∧ Dr_ w w' := by
 have H : (if a0 = 1 then (some true) else (some (a0 == 5))) = some r := h; clear h
 by_cases c2 : a0 = 1
 ·rw [if_pos c2] at H; have c2b0 := bH_ c2; have c2b1 := bF_ c2; clear c2; obtain rfl := oI_ H; go_enter Tryz.func93, Tryz.ntmps93; go_wp2; go_ret; exact ⟨eQ_, dR_⟩
 rw [if_neg c2] at H; have c2b0 := bE_ c2; have c2b1 := bG_ c2; obtain rfl := oI_ H; go_enter Tryz.func93, Tryz.ntmps93; go_wp2; go_ret; exact ⟨eQ_, dR_⟩
def isa_Target.f (a0 : Int) : Option (Bool) := if a0 = 8 then (some true) else (some (a0 == 9))
theorem isa_Target.calls (a0 : Int) (r : Bool) (w : World) (h : isa_Target.f a0 = some r) :
    Calls Tryz.prog 103 #[.int .i64 a0] w fun e w' => e = .returned (.bool r) ∧ Dr_ w w' := by
 have H : (if a0 = 8 then (some true) else (some (a0 == 9))) = some r := h; clear h
 by_cases c2 : a0 = 8
 ·rw [if_pos c2] at H; have c2b0 := bH_ c2; have c2b1 := bF_ c2; clear c2; obtain rfl := oI_ H; go_enter Tryz.func103, Tryz.ntmps103; go_wp2; go_ret; exact ⟨eQ_, dR_⟩
 rw [if_neg c2] at H; have c2b0 := bE_ c2; have c2b1 := bG_ c2; obtain rfl := oI_ H; go_enter Tryz.func103, Tryz.ntmps103; go_wp2; go_ret; exact ⟨eQ_, dR_⟩
end
section
attribute [local go_sem] max2_int min2_int max_two min_two max_three min_three max_four min_four
mutual
def isa_Bits.j0 : Nat → Int → Bool → Option (Int)
  | 0, _, _ => none
  | k + 1, x3, x4 => if x4 = true then (some 14) else (if x3 = 4 then (isa_Bits.j1 k (x3 == 4)) else (isa_Bits.j1 k (x3 == 8)))
def isa_Bits.j1 : Nat → Bool → Option (Int)
  | 0, _ => none
  | k + 1, x8 => if x8 = true then (some 18) else (some 0)
end
def isa_Bits.f (k : Nat) (a0 : Int) : Option (Int) := if a0 = 3 then (isa_Bits.j0 k a0 (a0 == 3)) else (if a0 = 5 then (isa_Bits.j0 k a0 (a0 == 5)) else (isa_Bits.j0 k a0 (a0 == 9)))
theorem isa_Bits.mono_l : ∀ k, (∀ y0 y1, LeO (isa_Bits.j0 k y0 y1) (isa_Bits.j0 (k + 1) y0 y1)) ∧ (∀ y0, LeO (isa_Bits.j1 k y0) (isa_Bits.j1 (k + 1) y0))
  | 0 => ⟨fun _ _ r h => by simp [isa_Bits.j0] at h, fun _ r h => by simp [isa_Bits.j1] at h⟩
  | k + 1 => by
    obtain ⟨ih0, ih1⟩ := isa_Bits.mono_l k; refine ⟨?_, ?_⟩
    · intro y0 y1; unfold isa_Bits.j0
      repeat' first
      | (with_reducible exact ih0 _ _)
      | (with_reducible exact ih1 _)
      | (with_reducible exact LeO.refl _)
      | (with_reducible exact LeO.none _)
      | (with_reducible refine LeO.ite ?_ ?_)
      | (with_reducible refine LeO.bind ?_ (fun _ => ?_))
      | exact LeO.none _
      | refine LeO.ite ?_ ?_
      | refine LeO.bind ?_ (fun _ => ?_)
    · intro y0; unfold isa_Bits.j1
      repeat' first
      | (with_reducible exact ih0 _ _)
      | (with_reducible exact ih1 _)
      | (with_reducible exact LeO.refl _)
      | (with_reducible exact LeO.none _)
      | (with_reducible refine LeO.ite ?_ ?_)
      | (with_reducible refine LeO.bind ?_ (fun _ => ?_))
      | exact LeO.none _
      | refine LeO.ite ?_ ?_
      | refine LeO.bind ?_ (fun _ => ?_)
theorem isa_Bits.mono : ∀ a0 k, LeO (isa_Bits.f k a0) (isa_Bits.f (k + 1) a0) := by
 intro a0 k; obtain ⟨ih0, ih1⟩ := isa_Bits.mono_l k; unfold isa_Bits.f
 repeat' first
  | (with_reducible exact ih0 _ _)
  | (with_reducible exact ih1 _)
  | (with_reducible exact LeO.refl _)
  | (with_reducible exact LeO.none _)
  | (with_reducible refine LeO.ite ?_ ?_)
  | (with_reducible refine LeO.bind ?_ (fun _ => ?_))
  | exact LeO.none _
  | refine LeO.ite ?_ ?_
  | refine LeO.bind ?_ (fun _ => ?_)
theorem isa_Bits.calls (k : Nat) (a0 : Int) (r : Int) (w : World) (h : isa_Bits.f k a0 = some r) :
    Calls Tryz.prog 104 #[.int .i64 a0] w fun e w' => e = .returned (.int .i64 r) ∧ Dr_ w w' := by
 have H : (if a0 = 3 then (isa_Bits.j0 k a0 (a0 == 3)) else (if a0 = 5 then (isa_Bits.j0 k a0 (a0 == 5)) else (isa_Bits.j0 k a0 (a0 == 9)))) = some r := h; clear h; have HC2 := aM_ H; clear H; go_enter Tryz.func104, Tryz.ntmps104
 go_upto_if 4 with (fail)
 go_cut [4] (fun v4 wc => ∃ (kq : Nat) (x4_1 : Bool), v4 = .bool x4_1 ∧ As_ (isa_Bits.j0 kq a0 x4_1 = some r) ∧ As_ (kq ≤ k) ∧ Dr_ w wc)
 case first =>
  have H := HC2.out; clear HC2
  by_cases c3 : a0 = 3
  ·rw [if_pos c3] at H; have c3b0 := bH_ c3; have c3b1 := bF_ c3; clear c3
   (first | rw [c3b0] | (simp only [i64_w, i32_w]; rw [c3b0]) | skip)
   replace H := aM_ H; go_wp2
   go_meet
   case rel => exact ⟨_, ((a0 == 3)), eQ_, H, ⟨by first | omega | exact Nat.le_refl _⟩, dR_⟩
  rw [if_neg c3] at H; have c3b0 := bE_ c3; have c3b1 := bG_ c3
  (first | rw [c3b0] | (simp only [i64_w, i32_w]; rw [c3b0]) | skip)
  by_cases c4 : a0 = 5
  ·rw [if_pos c4] at H; have c4b0 := bH_ c4; have c4b1 := bF_ c4; clear c4; replace H := aM_ H; go_wp2
   go_meet
   case rel => exact ⟨_, ((a0 == 5)), eQ_, H, ⟨by first | omega | exact Nat.le_refl _⟩, dR_⟩
  rw [if_neg c4] at H; have c4b0 := bE_ c4; have c4b1 := bG_ c4; replace H := aM_ H; go_wp2
  go_meet
  case rel => exact ⟨_, ((a0 == 9)), eQ_, H, ⟨by first | omega | exact Nat.le_refl _⟩, dR_⟩
 case rest =>
  clear HC2; obtain ⟨kq, x4_1, rfl, HA, HJ1, ⟨mc1, rfl⟩⟩ := hcut
  cases kq with
  | zero => exact absurd HA.out (by simp [isa_Bits.j0])
  | succ kj1 =>
   have H := HA.out; clear HA; simp only [isa_Bits.j0] at H
   by_cases c5 : x4_1 = true
   ·subst c5; rw [if_pos rfl] at H; obtain rfl := oI_ H; go_wp2; go_ret; exact ⟨eQ_, dR_⟩
   replace c5 := eF_ c5; subst c5; rw [if_neg Bool.false_ne_true] at H; have HC6 := aM_ H; clear H
   go_upto_if 8 with (fail)
   go_cut [8] (fun v8 wc => ∃ (kq : Nat) (x8_5 : Bool), v8 = .bool x8_5 ∧ As_ (isa_Bits.j1 kq x8_5 = some r) ∧ As_ (kq ≤ kj1) ∧ Dr_ w wc)
   case first =>
    have H := HC6.out; clear HC6
    by_cases c7 : a0 = 4
    ·rw [if_pos c7] at H; have c7b0 := bH_ c7; have c7b1 := bF_ c7; clear c7
     (first | rw [c7b0] | (simp only [i64_w, i32_w]; rw [c7b0]) | skip)
     replace H := aM_ H; go_wp2
     go_meet
     case rel => exact ⟨_, ((a0 == 4)), eQ_, H, ⟨by have := HJ1.out; first | omega | exact Nat.le_refl _⟩, dR_⟩
    rw [if_neg c7] at H; have c7b0 := bE_ c7; have c7b1 := bG_ c7
    (first | rw [c7b0] | (simp only [i64_w, i32_w]; rw [c7b0]) | skip)
    replace H := aM_ H; go_wp2
    go_meet
    case rel => exact ⟨_, ((a0 == 8)), eQ_, H, ⟨by have := HJ1.out; first | omega | exact Nat.le_refl _⟩, dR_⟩
   case rest =>
    clear HC6; obtain ⟨kq, x8_5, rfl, HA, HJ5, ⟨mc5, rfl⟩⟩ := hcut
    cases kq with
    | zero => exact absurd HA.out (by simp [isa_Bits.j1])
    | succ kj5 =>
     have H := HA.out; clear HA; simp only [isa_Bits.j1] at H
     by_cases c8 : x8_5 = true
     ·subst c8; rw [if_pos rfl] at H; obtain rfl := oI_ H; go_wp2; go_ret; exact ⟨eQ_, dR_⟩
     replace c8 := eF_ c8; subst c8; rw [if_neg Bool.false_ne_true] at H; obtain rfl := oI_ H; go_wp2; go_ret; exact ⟨eQ_, dR_⟩
def word_Within.f (a0 : Int) (a1 : Int) : Option (Bool) := if 0 ≤ (wrap64 (a1 - 1)) then (if a0 ≥ (shl .i64 (-1) (wrap64 (a1 - 1))) then (some (decide (a0 < (shl .i64 1 (wrap64 (a1 - 1)))))) else (some false)) else (none)
theorem word_Within.calls (a0 : Int) (a1 : Int) (r : Bool) (w : World) (h : word_Within.f a0 a1 = some r) :
    Calls Tryz.prog 105 #[.int .i64 a0, .int .i64 a1] w fun e w' => e = .returned (.bool r) ∧ Dr_ w w' := by
 have H : (if 0 ≤ (wrap64 (a1 - 1)) then (if a0 ≥ (shl .i64 (-1) (wrap64 (a1 - 1))) then (some (decide (a0 < (shl .i64 1 (wrap64 (a1 - 1)))))) else (some false)) else (none)) = some r := h; clear h; obtain ⟨ji3, hji3⟩ : ∃ j_ : Int, (wrap64 (a1 - 1)) = j_ := ⟨_, rfl⟩
 replace H : (if 0 ≤ (ji3) then (if a0 ≥ (shl .i64 (-1) (ji3)) then (some (decide (a0 < (shl .i64 1 (ji3))))) else (some false)) else (none)) = some r := by first | (rw [hji3] at H; exact H) | (simp only [hji3] at H ⊢; exact H)
 have hji3w : (IntKind.i64.wrap (a1 - 1)) = ji3 := (i64_w _).trans hji3
 by_cases c4 : 0 ≤ (ji3)
 ·rw [if_pos c4] at H; have c4b0 := eq_true c4; have c4b1 := dE_ c4; clear c4; obtain ⟨ji5, hji5⟩ : ∃ j_ : Int, (shl .i64 (-1) (ji3)) = j_ := ⟨_, rfl⟩
  replace H : (if a0 ≥ (ji5) then (some (decide (a0 < (shl .i64 1 (ji3))))) else (some false)) = some r := by first | (rw [hji5] at H; exact H) | (simp only [hji5] at H ⊢; exact H)
  have hji5_ : (IntKind.i64.wrap ((-1) * 2 ^ min (ji3).toNat 64)) = ji5 := hji5; have hji5z : (ji3) ≤ 64 → (IntKind.i64.wrap ((-1) * 2 ^ (ji3).toNat)) = ji5 := shl_small hji5; have hji5U : (IntKind.i64.wrap (-2 ^ min (ji3).toNat 64)) = ji5 := by have h_ := hji5_; rw [Int.neg_mul, Int.one_mul] at h_; exact h_
  have hji5V : (wrap64 (-2 ^ min (ji3).toNat 64)) = ji5 := (i64_w _).symm.trans hji5U; have hji5y : (wrap64 ((-1) * 2 ^ min (ji3).toNat 64)) = ji5 := (i64_w _).symm.trans hji5_; have hji5x : (ji3) ≤ 64 → (wrap64 ((-1) * 2 ^ (ji3).toNat)) = ji5 := fun h_ => (i64_w _).symm.trans (hji5z h_)
  by_cases c6 : a0 ≥ (ji5)
  ·rw [if_pos c6] at H; have c6b0 := dE_ c6; clear c6; have c7b0 := eq_true (oD_ : 0 ≤ (ji3)); obtain ⟨ji8, hji8⟩ : ∃ j_ : Int, (shl .i64 1 (ji3)) = j_ := ⟨_, rfl⟩
   replace H : (some (decide (a0 < (ji8)))) = some r := by first | (rw [hji8] at H; exact H) | (simp only [hji8] at H ⊢; exact H)
   have hji8_ : (IntKind.i64.wrap (1 * 2 ^ min (ji3).toNat 64)) = ji8 := hji8; have hji8z : (ji3) ≤ 64 → (IntKind.i64.wrap (1 * 2 ^ (ji3).toNat)) = ji8 := shl_small hji8; have hji8u : (IntKind.i64.wrap (2 ^ min (ji3).toNat 64)) = ji8 := by have h_ := hji8_; rw [Int.one_mul] at h_; exact h_
   have hji8v : (ji3) ≤ 64 → (IntKind.i64.wrap (2 ^ (ji3).toNat)) = ji8 := fun hle_ => by have h_ := hji8z hle_; rw [Int.one_mul] at h_; exact h_
   have hji8y : (wrap64 (1 * 2 ^ min (ji3).toNat 64)) = ji8 := (i64_w _).symm.trans hji8_; have hji8x : (ji3) ≤ 64 → (wrap64 (1 * 2 ^ (ji3).toNat)) = ji8 := fun h_ => (i64_w _).symm.trans (hji8z h_); obtain rfl := oI_ H; go_enter Tryz.func105, Tryz.ntmps105; go_wp2; go_ret; exact ⟨by first | rfl | (simp; done) | (simp only [← hji3, ← hji5, ← hji8] <;> (first | rfl | simp)) | (simp [*]; done) | (congr 1; rw [Bool.eq_iff_iff]; simp; done), dR_⟩
  rw [if_neg c6] at H; have c6b0 := dF_ c6; clear c6; obtain rfl := oI_ H; go_enter Tryz.func105, Tryz.ntmps105; go_wp2; go_ret; exact ⟨by first | rfl | (simp; done) | (simp only [← hji3, ← hji5] <;> (first | rfl | simp)) | (simp [*]; done) | (congr 1; rw [Bool.eq_iff_iff]; simp; done), dR_⟩
 rw [if_neg c4] at H; exact absurd H (by simp)
end
section
attribute [local go_sem] max2_int min2_int max_two min_two max_three min_three max_four min_four
def isa_letter.f (a0 : Int) : Option (Bool) := if a0 = 95 then (some true) else (if a0 ≥ 97 then (some (decide (a0 ≤ 122))) else (some false))
theorem isa_letter.calls (a0 : Int) (r : Bool) (w : World) (h : isa_letter.f a0 = some r) :
    Calls Tryz.prog 87 #[.int .u8 a0] w fun e w' => e = .returned (.bool r) ∧ Dr_ w w' := by
 have H : (if a0 = 95 then (some true) else (if a0 ≥ 97 then (some (decide (a0 ≤ 122))) else (some false))) = some r := h; clear h
 by_cases c2 : a0 = 95
 ·rw [if_pos c2] at H; have c2b0 := bH_ c2; have c2b1 := bF_ c2; clear c2; obtain rfl := oI_ H; go_enter Tryz.func87, Tryz.ntmps87; go_wp2; go_ret; exact ⟨eQ_, dR_⟩
 rw [if_neg c2] at H; have c2b0 := bE_ c2; have c2b1 := bG_ c2
 by_cases c3 : a0 ≥ 97
 ·rw [if_pos c3] at H; have c3b0 := dE_ c3; clear c3; obtain rfl := oI_ H; go_enter Tryz.func87, Tryz.ntmps87; go_wp2; go_ret; exact ⟨eQ_, dR_⟩
 rw [if_neg c3] at H; have c3b0 := dF_ c3; clear c3; obtain rfl := oI_ H; go_enter Tryz.func87, Tryz.ntmps87; go_wp2; go_ret; exact ⟨eQ_, dR_⟩
mutual
def isa_Name2.j0 : Nat → ByteArray → Bool → Option (Bool)
  | 0, _, _ => none
  | k + 1, x0, x17 => if x17 = true then (some false) else (isa_Name2.l0 k x0 (x0.size : Int) 0)
def isa_Name2.l0 : Nat → ByteArray → Int → Int → Option (Bool)
  | 0, _, _, _ => none
  | k + 1, x0, x19, x20 => if x20 < x19 then (if 0 ≤ x20 then (if x20 < (x0.size : Int) then ((isa_letter.f (bt x0 x20)).bind fun t226 => (if t226 = true then (isa_Name2.j2 k x0 x19 x20 false) else (if (bt x0 x20) < 48 then (isa_Name2.j2 k x0 x19 x20 true) else (isa_Name2.j2 k x0 x19 x20 (decide ((bt x0 x20) > 57)))))) else (none)) else (none)) else (some true)
def isa_Name2.j2 : Nat → ByteArray → Int → Int → Bool → Option (Bool)
  | 0, _, _, _, _ => none
  | k + 1, x0, x19, x20, x36 => if x36 = true then (some false) else (isa_Name2.l0 k x0 x19 (wrap64 (x20 + 1)))
end
def isa_Name2.f (k : Nat) (a0 : ByteArray) : Option (Bool) := if a0.toList = ([] : List UInt8) then (isa_Name2.j0 k a0 true) else (if (a0.size : Int) > 12 then (isa_Name2.j0 k a0 true) else (if 0 < (a0.size : Int) then ((isa_letter.f (bt a0 0)).bind fun t225 => (isa_Name2.j0 k a0 (!t225))) else (none)))
theorem isa_Name2.calls (k : Nat) (a0 : ByteArray) (r : Bool) (w : World) (h : isa_Name2.f k a0 = some r) :
    Calls Tryz.prog 55 #[.string a0] w fun e w' => e = .returned (.bool r) ∧ Dr_ w w' := by
 have H : (if a0.toList = ([] : List UInt8) then (isa_Name2.j0 k a0 true) else (if (a0.size : Int) > 12 then (isa_Name2.j0 k a0 true) else (if 0 < (a0.size : Int) then ((isa_letter.f (bt a0 0)).bind fun t225 => (isa_Name2.j0 k a0 (!t225))) else (none)))) = some r := h; clear h; have HC2 := aM_ H; clear H; go_enter Tryz.func55, Tryz.ntmps55
 go_upto_region 1 with (fail)
 go_cut [17] (fun v17 wc => ∃ (kq : Nat) (x17_1 : Bool), v17 = .bool x17_1 ∧ As_ (isa_Name2.j0 kq a0 x17_1 = some r) ∧ As_ (kq ≤ k) ∧ Dr_ w wc)
 case first =>
  have H := HC2.out; clear HC2
  by_cases c3 : a0.toList = ([] : List UInt8)
  ·rw [if_pos c3] at H; have c3b0 := bH_ c3; have c3b1 := bF_ c3; clear c3
   (first | rw [c3b0] | (simp only [i64_w, i32_w]; rw [c3b0]) | skip)
   replace H := aM_ H; go_wp2
   go_meet
   case rel => exact ⟨_, (true), eQ_, H, ⟨by first | omega | exact Nat.le_refl _⟩, dR_⟩
  rw [if_neg c3] at H; have c3b0 := bE_ c3; have c3b1 := bG_ c3
  (first | rw [c3b0] | (simp only [i64_w, i32_w]; rw [c3b0]) | skip)
  by_cases c4 : (a0.size : Int) > 12
  ·rw [if_pos c4] at H; have c4b0 := dE_ c4; have c4b1 : decide (12 < a0.size) = true := decide_eq_true (by omega); clear c4; replace H := aM_ H; go_wp2
   go_meet
   case rel => exact ⟨_, (true), eQ_, H, ⟨by first | omega | exact Nat.le_refl _⟩, dR_⟩
  rw [if_neg c4] at H; have c4b0 := dF_ c4; have c4b1 : decide (12 < a0.size) = false := decide_eq_false (by omega); clear c4
  by_cases c5 : 0 < (a0.size : Int)
  ·rw [if_pos c5] at H; have c5b0 := dE_ c5; have c5b1 : decide (0 < a0.size) = true := decide_eq_true (by omega); clear c5; obtain ⟨t225, A7, H⟩ := oB_ H; replace H := aM_ H; have p6 : 0 ≤ (0 : Int) := (by omega)
   have q6 : 0 < a0.size := (by have : (0 : Int) < (a0.size : Int) := oD_; omega)
   have hx6 : ∀ h : 0 < a0.size, ((a0[0]'h).toNat : Int) = bt a0 0 := bt_at a0 0; clear p6; have qi6 : (0 < (a0.size : Int)) = True := eq_true (oD_); replace q6 := eq_true q6
   go_wp2_with (first | (go_at_call 87; (with_reducible refine (isa_letter.calls (bt a0 0) t225 _ A7.out).mono ?_); rintro e w' ⟨rfl, ⟨nd, rfl⟩⟩))
   go_meet
   case rel => exact ⟨_, (!t225), eQ_, H, ⟨by first | omega | exact Nat.le_refl _⟩, dR_⟩
  rw [if_neg c5] at H; exact absurd H (by simp)
 case rest =>
  clear HC2; obtain ⟨kq, x17_1, rfl, HA, HJ1, ⟨mc1, rfl⟩⟩ := hcut
  cases kq with
  | zero => exact absurd HA.out (by simp [isa_Name2.j0])
  | succ kj1 =>
   have H := HA.out; clear HA; simp only [isa_Name2.j0] at H
   by_cases c8 : x17_1 = true
   ·subst c8; rw [if_pos rfl] at H; obtain rfl := oI_ H; go_wp2; go_ret; exact ⟨eQ_, dR_⟩
   replace c8 := eF_ c8; subst c8; rw [if_neg Bool.false_ne_true] at H; replace H := aM_ H; go_wp2
   go_loopg [20] kj1 (fun kq v20 w' => ∃ (x20_2 : Int), v20 = .int .i64 x20_2 ∧ As_ (isa_Name2.l0 kq a0 (a0.size : Int) x20_2 = some r) ∧ As_ (kq ≤ kj1) ∧ Dr_ w w')
   case atStart => exact ⟨(0), eQ_, H, ⟨Nat.le_refl _⟩, dR_⟩
   case round =>
    clear H; obtain ⟨x20_2, rfl, HA, HK2, ⟨m2, rfl⟩⟩ := hrel
    cases gk with
    | zero => exact absurd HA.out (by simp [isa_Name2.l0])
    | succ k2 =>
     have H := HA.out; clear HA; simp only [isa_Name2.l0] at H
     by_cases c9 : x20_2 < (a0.size : Int)
     ·rw [if_pos c9] at H; have c9b0 := dE_ c9; clear c9
      by_cases c10 : 0 ≤ x20_2
      ·rw [if_pos c10] at H; have c10b0 := dE_ c10; clear c10
       by_cases c11 : x20_2 < (a0.size : Int)
       ·rw [if_pos c11] at H; have c11b0 := dE_ c11; clear c11; have HC13 := aM_ H; clear H; have p12 : 0 ≤ (x20_2 : Int) := oD_; have q12 : x20_2 < (a0.size : Int) := oD_; have hx12 := bt_at a0 x20_2; replace p12 := eq_true p12; replace q12 := eq_true q12
        go_upto_region 7 with (fail)
        go_cut [36] (fun v36 wc => ∃ (kq : Nat) (x36_12 : Bool), v36 = .bool x36_12 ∧ As_ (isa_Name2.j2 kq a0 (a0.size : Int) x20_2 x36_12 = some r) ∧ As_ (kq ≤ k2) ∧ Dr_ w wc)
        case first =>
         have H := HC13.out; clear HC13; obtain ⟨t226, A14, H⟩ := oB_ H
         by_cases c15 : t226 = true
         ·subst c15; rw [if_pos rfl] at H; replace H := aM_ H
          go_wp2_with (first | ((with_reducible refine gC_ (f := 87) rfl ?_); refine gL_ (some 27) Tryz.func87 #[.int .u8 (bt a0 x20_2)] rfl ?_; (with_reducible refine (isa_letter.calls (bt a0 x20_2) true _ A14.out).mono ?_); rintro e w' ⟨rfl, ⟨nd, rfl⟩⟩; refine ⟨_, rfl, ?_⟩))
          go_meet
          case rel => exact ⟨_, (false), eQ_, H, ⟨by have := HJ1.out; have := HK2.out; first | omega | exact Nat.le_refl _⟩, dR_⟩
         replace c15 := eF_ c15; subst c15; rw [if_neg Bool.false_ne_true] at H
         by_cases c16 : (bt a0 x20_2) < 48
         ·rw [if_pos c16] at H; have c16b0 := dE_ c16; clear c16
          (first | rw [c16b0] | (simp only [i64_w, i32_w]; rw [c16b0]) | skip)
          replace H := aM_ H
          go_wp2_with (first | ((with_reducible refine gC_ (f := 87) rfl ?_); refine gL_ (some 27) Tryz.func87 #[.int .u8 (bt a0 x20_2)] rfl ?_; (with_reducible refine (isa_letter.calls (bt a0 x20_2) false _ A14.out).mono ?_); rintro e w' ⟨rfl, ⟨nd, rfl⟩⟩; refine ⟨_, rfl, ?_⟩))
          go_meet
          case rel => exact ⟨_, (true), eQ_, H, ⟨by have := HJ1.out; have := HK2.out; first | omega | exact Nat.le_refl _⟩, dR_⟩
         rw [if_neg c16] at H; have c16b0 := dF_ c16; clear c16
         (first | rw [c16b0] | (simp only [i64_w, i32_w]; rw [c16b0]) | skip)
         replace H := aM_ H
         go_wp2_with (first | ((with_reducible refine gC_ (f := 87) rfl ?_); refine gL_ (some 27) Tryz.func87 #[.int .u8 (bt a0 x20_2)] rfl ?_; (with_reducible refine (isa_letter.calls (bt a0 x20_2) false _ A14.out).mono ?_); rintro e w' ⟨rfl, ⟨nd, rfl⟩⟩; refine ⟨_, rfl, ?_⟩))
         go_meet
         case rel => exact ⟨_, (decide ((bt a0 x20_2) > 57)), eQ_, H, ⟨by have := HJ1.out; have := HK2.out; first | omega | exact Nat.le_refl _⟩, dR_⟩
        case rest =>
         clear HC13; obtain ⟨kq, x36_12, rfl, HA, HJ12, ⟨mc12, rfl⟩⟩ := hcut
         cases kq with
         | zero => exact absurd HA.out (by simp [isa_Name2.j2])
         | succ kj12 =>
          have H := HA.out; clear HA; simp only [isa_Name2.j2] at H
          by_cases c17 : x36_12 = true
          ·subst c17; rw [if_pos rfl] at H; obtain rfl := oI_ H; go_wp2; go_ret; exact ⟨eQ_, dR_⟩
          replace c17 := eF_ c17; subst c17; rw [if_neg Bool.false_ne_true] at H; replace H := aM_ H; go_wp2
          go_roundg kj12
          case measure => have := HJ1.out; have := HK2.out; have := HJ12.out; omega
          case rel => exact ⟨(wrap64 (x20_2 + 1)), eQ_, H, ⟨by have := HJ1.out; have := HK2.out; have := HJ12.out; omega⟩, dR_⟩
       rw [if_neg c11] at H; exact absurd H (by simp)
      rw [if_neg c10] at H; exact absurd H (by simp)
     rw [if_neg c9] at H; have c9b0 := dF_ c9; clear c9; obtain rfl := oI_ H; go_wp2; go_ret; exact ⟨eQ_, dR_⟩
def isa_Is.f (a0 : Int) : Option (Bool) := if a0 ≥ 0 then (some (decide (a0 ≤ 33))) else (some false)
theorem isa_Is.calls (a0 : Int) (r : Bool) (w : World) (h : isa_Is.f a0 = some r) :
    Calls Tryz.prog 83 #[.int .i64 a0] w fun e w' => e = .returned (.bool r) ∧ Dr_ w w' := by
 have H : (if a0 ≥ 0 then (some (decide (a0 ≤ 33))) else (some false)) = some r := h; clear h
 by_cases c2 : a0 ≥ 0
 ·rw [if_pos c2] at H; have c2b0 := dE_ c2; clear c2; obtain rfl := oI_ H; go_enter Tryz.func83, Tryz.ntmps83; go_wp2; go_ret; exact ⟨eQ_, dR_⟩
 rw [if_neg c2] at H; have c2b0 := dF_ c2; clear c2; obtain rfl := oI_ H; go_enter Tryz.func83, Tryz.ntmps83; go_wp2; go_ret; exact ⟨eQ_, dR_⟩
end
section
attribute [local go_sem] max2_int min2_int max_two min_two max_three min_three max_four min_four
mutual
def isa_imm.j0 : Nat → Int → Bool → Int → Int → Int → Int → Int → ByteArray → Option (Bool)
  | 0, _, _, _, _, _, _, _, _ => none
  | k + 1, x1, x5, x228a, x228b, x228c, x228d, x228e, x228f => if x5 = true then (if x228e = 0 then ((isa_Name2.f k x228f).bind fun t229 => (some t229)) else (some false)) else ((isa_Target.f x1).bind fun t230 => (if t230 = true then (if x228e ≥ 0 then (some (decide (x228e < 1024))) else (some false)) else (if x1 = 4 then (if x228f.toList = ([] : List UInt8) then (isa_imm.j1 k x1 false x228a x228b x228c x228d x228e x228f) else ((isa_Name2.f k x228f).bind fun t231 => (isa_imm.j1 k x1 (!t231) x228a x228b x228c x228d x228e x228f))) else (isa_imm.j1 k x1 false x228a x228b x228c x228d x228e x228f))))
def isa_imm.j1 : Nat → Int → Bool → Int → Int → Int → Int → Int → ByteArray → Option (Bool)
  | 0, _, _, _, _, _, _, _, _ => none
  | k + 1, x1, x32, x228a, x228b, x228c, x228d, x228e, x228f => if x32 = true then (isa_imm.j2 k x1 x32 x228a x228b x228c x228d x228e x228f) else (if x1 = 4 then (isa_imm.j2 k x1 false x228a x228b x228c x228d x228e x228f) else (isa_imm.j2 k x1 (x228f.toList != ([] : List UInt8)) x228a x228b x228c x228d x228e x228f))
def isa_imm.j2 : Nat → Int → Bool → Int → Int → Int → Int → Int → ByteArray → Option (Bool)
  | 0, _, _, _, _, _, _, _, _ => none
  | k + 1, x1, x32, x228a, x228b, x228c, x228d, x228e, x228f => if x32 = true then (some false) else ((isa_Bits.f k x1).bind fun t232 => (if t232 = 0 then (some (x228e == 0)) else ((isa_Bits.f k x1).bind fun t233 => ((word_Within.f x228e t232).bind fun t234 => (some t234)))))
end
def isa_imm.f (k : Nat) (a0_0 : Int) (a0_1 : Int) (a0_2 : Int) (a0_3 : Int) (a0_4 : Int) (a0_5 : ByteArray) (a1 : Int) : Option (Bool) := (isa_Target.f a1).bind fun t228 => (if t228 = true then (isa_imm.j0 k a1 (a0_5.toList != ([] : List UInt8)) a0_0 a0_1 a0_2 a0_3 a0_4 a0_5) else (isa_imm.j0 k a1 false a0_0 a0_1 a0_2 a0_3 a0_4 a0_5))
theorem isa_imm.calls (k : Nat) (a0_0 : Int) (a0_1 : Int) (a0_2 : Int) (a0_3 : Int) (a0_4 : Int) (a0_5 : ByteArray) (a1 : Int) (r : Bool) (w : World) (h : isa_imm.f k a0_0 a0_1 a0_2 a0_3 a0_4 a0_5 a1 = some r) :
    Calls Tryz.prog 94 #[.agg #[.int .i64 a0_0, .int .i64 a0_1, .int .i64 a0_2, .int .i64 a0_3, .int .i64 a0_4, .string a0_5], .int .i64 a1] w fun e w' => e = .returned (.bool r) ∧ Below w.heap.size w w' := by
 have hu24 := Tryz.underlying24; have HB := aM_ (Below.refl w.heap.size w); have H : ((isa_Target.f a1).bind fun t228 => (if t228 = true then (isa_imm.j0 k a1 (a0_5.toList != ([] : List UInt8)) a0_0 a0_1 a0_2 a0_3 a0_4 a0_5) else (isa_imm.j0 k a1 false a0_0 a0_1 a0_2 a0_3 a0_4 a0_5))) = some r := h; clear h; have HC3 := aM_ H; clear H; go_enter Tryz.func94, Tryz.ntmps94
 go_upto_region 1 with (first | ((with_reducible refine gate_dst (N := 2) rfl ?_); refine bX_ (N := 2) (cs := #[.int .i64 a0_0, .int .i64 a0_1, .int .i64 a0_2, .int .i64 a0_3, .int .i64 a0_4, .string a0_5]) (t := 24) ?_; intro gb227 hg w4 hbox hb; replace BK227 := aM_ (hbox); replace GW227 := aM_ (gE_ hg (bl_ HB)); replace GE227 := aM_ (gE_ hg (bl_ HB)); replace HB := aM_ (bT_ (bl_ HB) hb); clear hb hbox hg))
 repeat (go_quiet (first | ((with_reducible refine gate_dst (N := 2) rfl ?_); refine bX_ (N := 2) (cs := #[.int .i64 a0_0, .int .i64 a0_1, .int .i64 a0_2, .int .i64 a0_3, .int .i64 a0_4, .string a0_5]) (t := 24) ?_; intro gb227 hg w4 hbox hb; replace BK227 := aM_ (hbox); replace GW227 := aM_ (gE_ hg (bl_ HB)); replace GE227 := aM_ (gE_ hg (bl_ HB)); replace HB := aM_ (bT_ (bl_ HB) hb); clear hb hbox hg)); go_upto_region 1 with (first | ((with_reducible refine gate_dst (N := 2) rfl ?_); refine bX_ (N := 2) (cs := #[.int .i64 a0_0, .int .i64 a0_1, .int .i64 a0_2, .int .i64 a0_3, .int .i64 a0_4, .string a0_5]) (t := 24) ?_; intro gb227 hg w4 hbox hb; replace BK227 := aM_ (hbox); replace GW227 := aM_ (gE_ hg (bl_ HB)); replace GE227 := aM_ (gE_ hg (bl_ HB)); replace HB := aM_ (bT_ (bl_ HB) hb); clear hb hbox hg)))
 (try simp only [Act.put, List.setIfInBounds_toArray, List.set_cons_zero, List.set_cons_succ])
 go_cut [5] (fun v5 wc => ∃ (kq : Nat) (x5_2 : Bool), v5 = .bool x5_2 ∧ As_ (isa_imm.j0 kq a1 x5_2 a0_0 a0_1 a0_2 a0_3 a0_4 a0_5 = some r) ∧ As_ (kq ≤ k) ∧ As_ (wc.heap[gb227]? = some (.cells #[.int .i64 a0_0, .int .i64 a0_1, .int .i64 a0_2, .int .i64 a0_3, .int .i64 a0_4, .string a0_5] 24 (0, 0))) ∧ As_ (Below w.heap.size w wc))
 case first =>
  have H := HC3.out; clear HC3; obtain ⟨t228, A5, H⟩ := oB_ H
  by_cases c6 : t228 = true
  ·subst c6; rw [if_pos rfl] at H; replace H := aM_ H
   go_wp2_with (first | (go_at_call 103; (with_reducible refine (isa_Target.calls a1 true _ A5.out).mono ?_); rintro e w' ⟨rfl, ⟨nd, rfl⟩⟩; (try first | exact ⟨rfl, _, dN_⟩ | exact ⟨rfl, _, dT_⟩); obtain ⟨hcz7_0, hcz7_1, hcz7_2, hcz7_3, hcz7_4, hcz7_5⟩ := cl6_ BK227.out; obtain ⟨hfz7_0, hfz7_1, hfz7_2, hfz7_3, hfz7_4, hfz7_5⟩ := fz6_ BK227.out))
   repeat (go_quiet (first | (go_at_call 103; (with_reducible refine (isa_Target.calls a1 true _ A5.out).mono ?_); rintro e w' ⟨rfl, ⟨nd, rfl⟩⟩; (try first | exact ⟨rfl, _, dN_⟩ | exact ⟨rfl, _, dT_⟩); obtain ⟨hcz7_0, hcz7_1, hcz7_2, hcz7_3, hcz7_4, hcz7_5⟩ := cl6_ BK227.out; obtain ⟨hfz7_0, hfz7_1, hfz7_2, hfz7_3, hfz7_4, hfz7_5⟩ := fz6_ BK227.out)); try go_wp2_with (first | (go_at_call 103; (with_reducible refine (isa_Target.calls a1 true _ A5.out).mono ?_); rintro e w' ⟨rfl, ⟨nd, rfl⟩⟩; (try first | exact ⟨rfl, _, dN_⟩ | exact ⟨rfl, _, dT_⟩); obtain ⟨hcz7_0, hcz7_1, hcz7_2, hcz7_3, hcz7_4, hcz7_5⟩ := cl6_ BK227.out; obtain ⟨hfz7_0, hfz7_1, hfz7_2, hfz7_3, hfz7_4, hfz7_5⟩ := fz6_ BK227.out)))
   go_meet
   case rel => exact ⟨_, ((a0_5.toList != ([] : List UInt8))), eQ_, H, ⟨by first | omega | exact Nat.le_refl _⟩, ⟨rB_ BK227⟩, ⟨bs_ HB GE227⟩⟩
  replace c6 := eF_ c6; subst c6; rw [if_neg Bool.false_ne_true] at H; replace H := aM_ H
  go_wp2_with (first | (go_at_call 103; (with_reducible refine (isa_Target.calls a1 false _ A5.out).mono ?_); rintro e w' ⟨rfl, ⟨nd, rfl⟩⟩; (try first | exact ⟨rfl, _, dN_⟩ | exact ⟨rfl, _, dT_⟩)))
  repeat (go_quiet (first | (go_at_call 103; (with_reducible refine (isa_Target.calls a1 false _ A5.out).mono ?_); rintro e w' ⟨rfl, ⟨nd, rfl⟩⟩; (try first | exact ⟨rfl, _, dN_⟩ | exact ⟨rfl, _, dT_⟩))); try go_wp2_with (first | (go_at_call 103; (with_reducible refine (isa_Target.calls a1 false _ A5.out).mono ?_); rintro e w' ⟨rfl, ⟨nd, rfl⟩⟩; (try first | exact ⟨rfl, _, dN_⟩ | exact ⟨rfl, _, dT_⟩))))
  go_meet
  case rel => exact ⟨_, (false), eQ_, H, ⟨by first | omega | exact Nat.le_refl _⟩, ⟨rB_ BK227⟩, ⟨bs_ HB GE227⟩⟩
 case rest =>
  clear HC3; obtain ⟨kq, x5_2, rfl, HA, HJ2, BK227, HB⟩ := hcut
  cases kq with
  | zero => exact absurd HA.out (by simp [isa_imm.j0])
  | succ kj2 =>
   have H := HA.out; clear HA; simp only [isa_imm.j0] at H
   by_cases c8 : x5_2 = true
   ·subst c8; rw [if_pos rfl] at H
    by_cases c9 : a0_4 = 0
    ·rw [if_pos c9] at H; have c9b0 := bH_ c9; have c9b1 := bF_ c9; clear c9; obtain ⟨t229, A10, H⟩ := oB_ H; obtain rfl := oI_ H; obtain ⟨hcz11_0, hcz11_1, hcz11_2, hcz11_3, hcz11_4, hcz11_5⟩ := cl6_ BK227.out; obtain ⟨hfz11_0, hfz11_1, hfz11_2, hfz11_3, hfz11_4, hfz11_5⟩ := fz6_ BK227.out
     go_wp2_with (first | (go_at_call 55; (with_reducible refine (isa_Name2.calls kj2 a0_5 t229 _ A10.out).mono ?_); rintro e w' ⟨rfl, ⟨nd, rfl⟩⟩; (try first | exact ⟨rfl, _, dN_⟩ | exact ⟨rfl, _, dT_⟩)))
     repeat (go_quiet (first | (go_at_call 55; (with_reducible refine (isa_Name2.calls kj2 a0_5 t229 _ A10.out).mono ?_); rintro e w' ⟨rfl, ⟨nd, rfl⟩⟩; (try first | exact ⟨rfl, _, dN_⟩ | exact ⟨rfl, _, dT_⟩))); try go_wp2_with (first | (go_at_call 55; (with_reducible refine (isa_Name2.calls kj2 a0_5 t229 _ A10.out).mono ?_); rintro e w' ⟨rfl, ⟨nd, rfl⟩⟩; (try first | exact ⟨rfl, _, dN_⟩ | exact ⟨rfl, _, dT_⟩))))
     go_ret; exact ⟨eR_, bs_ HB GE227⟩
    rw [if_neg c9] at H; have c9b0 := bE_ c9; have c9b1 := bG_ c9; obtain rfl := oI_ H; obtain ⟨hcz12_0, hcz12_1, hcz12_2, hcz12_3, hcz12_4, hcz12_5⟩ := cl6_ BK227.out; obtain ⟨hfz12_0, hfz12_1, hfz12_2, hfz12_3, hfz12_4, hfz12_5⟩ := fz6_ BK227.out; go_wp2
    repeat (go_quiet (fail); try go_wp2)
    go_ret; exact ⟨eR_, bs_ HB GE227⟩
   replace c8 := eF_ c8; subst c8; rw [if_neg Bool.false_ne_true] at H; obtain ⟨t230, A13, H⟩ := oB_ H
   by_cases c14 : t230 = true
   ·subst c14; rw [if_pos rfl] at H
    by_cases c15 : a0_4 ≥ 0
    ·rw [if_pos c15] at H; have c15b0 := dE_ c15; clear c15; obtain rfl := oI_ H
     go_wp2_with (first | (go_at_call 103; (with_reducible refine (isa_Target.calls a1 true _ A13.out).mono ?_); rintro e w' ⟨rfl, ⟨nd, rfl⟩⟩; (try first | exact ⟨rfl, _, dN_⟩ | exact ⟨rfl, _, dT_⟩); obtain ⟨hcz16_0, hcz16_1, hcz16_2, hcz16_3, hcz16_4, hcz16_5⟩ := cl6_ BK227.out; obtain ⟨hfz16_0, hfz16_1, hfz16_2, hfz16_3, hfz16_4, hfz16_5⟩ := fz6_ BK227.out))
     repeat (go_quiet (first | (go_at_call 103; (with_reducible refine (isa_Target.calls a1 true _ A13.out).mono ?_); rintro e w' ⟨rfl, ⟨nd, rfl⟩⟩; (try first | exact ⟨rfl, _, dN_⟩ | exact ⟨rfl, _, dT_⟩); obtain ⟨hcz16_0, hcz16_1, hcz16_2, hcz16_3, hcz16_4, hcz16_5⟩ := cl6_ BK227.out; obtain ⟨hfz16_0, hfz16_1, hfz16_2, hfz16_3, hfz16_4, hfz16_5⟩ := fz6_ BK227.out)); try go_wp2_with (first | (go_at_call 103; (with_reducible refine (isa_Target.calls a1 true _ A13.out).mono ?_); rintro e w' ⟨rfl, ⟨nd, rfl⟩⟩; (try first | exact ⟨rfl, _, dN_⟩ | exact ⟨rfl, _, dT_⟩); obtain ⟨hcz16_0, hcz16_1, hcz16_2, hcz16_3, hcz16_4, hcz16_5⟩ := cl6_ BK227.out; obtain ⟨hfz16_0, hfz16_1, hfz16_2, hfz16_3, hfz16_4, hfz16_5⟩ := fz6_ BK227.out)))
     go_ret; exact ⟨eR_, bs_ HB GE227⟩
    rw [if_neg c15] at H; have c15b0 := dF_ c15; clear c15; obtain rfl := oI_ H
    go_wp2_with (first | (go_at_call 103; (with_reducible refine (isa_Target.calls a1 true _ A13.out).mono ?_); rintro e w' ⟨rfl, ⟨nd, rfl⟩⟩; (try first | exact ⟨rfl, _, dN_⟩ | exact ⟨rfl, _, dT_⟩); obtain ⟨hcz17_0, hcz17_1, hcz17_2, hcz17_3, hcz17_4, hcz17_5⟩ := cl6_ BK227.out; obtain ⟨hfz17_0, hfz17_1, hfz17_2, hfz17_3, hfz17_4, hfz17_5⟩ := fz6_ BK227.out))
    repeat (go_quiet (first | (go_at_call 103; (with_reducible refine (isa_Target.calls a1 true _ A13.out).mono ?_); rintro e w' ⟨rfl, ⟨nd, rfl⟩⟩; (try first | exact ⟨rfl, _, dN_⟩ | exact ⟨rfl, _, dT_⟩); obtain ⟨hcz17_0, hcz17_1, hcz17_2, hcz17_3, hcz17_4, hcz17_5⟩ := cl6_ BK227.out; obtain ⟨hfz17_0, hfz17_1, hfz17_2, hfz17_3, hfz17_4, hfz17_5⟩ := fz6_ BK227.out)); try go_wp2_with (first | (go_at_call 103; (with_reducible refine (isa_Target.calls a1 true _ A13.out).mono ?_); rintro e w' ⟨rfl, ⟨nd, rfl⟩⟩; (try first | exact ⟨rfl, _, dN_⟩ | exact ⟨rfl, _, dT_⟩); obtain ⟨hcz17_0, hcz17_1, hcz17_2, hcz17_3, hcz17_4, hcz17_5⟩ := cl6_ BK227.out; obtain ⟨hfz17_0, hfz17_1, hfz17_2, hfz17_3, hfz17_4, hfz17_5⟩ := fz6_ BK227.out)))
    go_ret; exact ⟨eR_, bs_ HB GE227⟩
   replace c14 := eF_ c14; subst c14; rw [if_neg Bool.false_ne_true] at H; have HC18 := aM_ H; clear H
   go_upto_region 5 with (first | (go_at_call 103; (with_reducible refine (isa_Target.calls a1 false _ A13.out).mono ?_); rintro e w' ⟨rfl, ⟨nd, rfl⟩⟩; (try first | exact ⟨rfl, _, dN_⟩ | exact ⟨rfl, _, dT_⟩)))
   repeat (go_quiet (first | (go_at_call 103; (with_reducible refine (isa_Target.calls a1 false _ A13.out).mono ?_); rintro e w' ⟨rfl, ⟨nd, rfl⟩⟩; (try first | exact ⟨rfl, _, dN_⟩ | exact ⟨rfl, _, dT_⟩))); go_upto_region 5 with (first | (go_at_call 103; (with_reducible refine (isa_Target.calls a1 false _ A13.out).mono ?_); rintro e w' ⟨rfl, ⟨nd, rfl⟩⟩; (try first | exact ⟨rfl, _, dN_⟩ | exact ⟨rfl, _, dT_⟩))))
   (try simp only [Act.put, List.setIfInBounds_toArray, List.set_cons_zero, List.set_cons_succ])
   go_cut [32] (fun v32 wc => ∃ (kq : Nat) (x32_17 : Bool), v32 = .bool x32_17 ∧ As_ (isa_imm.j1 kq a1 x32_17 a0_0 a0_1 a0_2 a0_3 a0_4 a0_5 = some r) ∧ As_ (kq ≤ kj2) ∧ As_ (wc.heap[gb227]? = some (.cells #[.int .i64 a0_0, .int .i64 a0_1, .int .i64 a0_2, .int .i64 a0_3, .int .i64 a0_4, .string a0_5] 24 (0, 0))) ∧ As_ (Below w.heap.size w wc))
   case first =>
    have H := HC18.out; clear HC18
    by_cases c19 : a1 = 4
    ·rw [if_pos c19] at H; have c19b0 := bH_ c19; have c19b1 := bF_ c19; clear c19
     (first | rw [c19b0] | (simp only [i64_w, i32_w]; rw [c19b0]) | skip)
     by_cases c20 : a0_5.toList = ([] : List UInt8)
     ·rw [if_pos c20] at H; have c20b0 := bH_ c20; have c20b1 := bF_ c20; clear c20; replace H := aM_ H; obtain ⟨hcz21_0, hcz21_1, hcz21_2, hcz21_3, hcz21_4, hcz21_5⟩ := cl6_ BK227.out; obtain ⟨hfz21_0, hfz21_1, hfz21_2, hfz21_3, hfz21_4, hfz21_5⟩ := fz6_ BK227.out; go_wp2
      repeat (go_quiet (fail); try go_wp2)
      go_meet
      case rel => exact ⟨_, (false), eQ_, H, ⟨by have := HJ2.out; first | omega | exact Nat.le_refl _⟩, ⟨rB_ BK227⟩, ⟨bs_ HB GE227⟩⟩
     rw [if_neg c20] at H; have c20b0 := bE_ c20; have c20b1 := bG_ c20; obtain ⟨t231, A22, H⟩ := oB_ H; replace H := aM_ H; obtain ⟨hcz23_0, hcz23_1, hcz23_2, hcz23_3, hcz23_4, hcz23_5⟩ := cl6_ BK227.out; obtain ⟨hfz23_0, hfz23_1, hfz23_2, hfz23_3, hfz23_4, hfz23_5⟩ := fz6_ BK227.out
     go_wp2_with (first | (go_at_call 55; (with_reducible refine (isa_Name2.calls kj2 a0_5 t231 _ A22.out).mono ?_); rintro e w' ⟨rfl, ⟨nd, rfl⟩⟩; (try first | exact ⟨rfl, _, dN_⟩ | exact ⟨rfl, _, dT_⟩)))
     repeat (go_quiet (first | (go_at_call 55; (with_reducible refine (isa_Name2.calls kj2 a0_5 t231 _ A22.out).mono ?_); rintro e w' ⟨rfl, ⟨nd, rfl⟩⟩; (try first | exact ⟨rfl, _, dN_⟩ | exact ⟨rfl, _, dT_⟩))); try go_wp2_with (first | (go_at_call 55; (with_reducible refine (isa_Name2.calls kj2 a0_5 t231 _ A22.out).mono ?_); rintro e w' ⟨rfl, ⟨nd, rfl⟩⟩; (try first | exact ⟨rfl, _, dN_⟩ | exact ⟨rfl, _, dT_⟩))))
     go_meet
     case rel => exact ⟨_, (!t231), eQ_, H, ⟨by have := HJ2.out; first | omega | exact Nat.le_refl _⟩, ⟨rB_ BK227⟩, ⟨bs_ HB GE227⟩⟩
    rw [if_neg c19] at H; have c19b0 := bE_ c19; have c19b1 := bG_ c19
    (first | rw [c19b0] | (simp only [i64_w, i32_w]; rw [c19b0]) | skip)
    replace H := aM_ H; go_wp2
    repeat (go_quiet (fail); try go_wp2)
    go_meet
    case rel => exact ⟨_, (false), eQ_, H, ⟨by have := HJ2.out; first | omega | exact Nat.le_refl _⟩, ⟨rB_ BK227⟩, ⟨bs_ HB GE227⟩⟩
   case rest =>
    clear HC18; obtain ⟨kq, x32_17, rfl, HA, HJ17, BK227, HB⟩ := hcut
    cases kq with
    | zero => exact absurd HA.out (by simp [isa_imm.j1])
    | succ kj17 =>
     have H := HA.out; clear HA; simp only [isa_imm.j1] at H; have HC24 := aM_ H; clear H
     go_upto_if 32 with (fail)
     repeat (go_quiet (fail); go_upto_if 32 with (fail))
     go_cut [32] (fun v32 wc => ∃ (kq : Nat) (x32_23 : Bool), v32 = .bool x32_23 ∧ As_ (isa_imm.j2 kq a1 x32_23 a0_0 a0_1 a0_2 a0_3 a0_4 a0_5 = some r) ∧ As_ (kq ≤ kj17) ∧ As_ (wc.heap[gb227]? = some (.cells #[.int .i64 a0_0, .int .i64 a0_1, .int .i64 a0_2, .int .i64 a0_3, .int .i64 a0_4, .string a0_5] 24 (0, 0))) ∧ As_ (Below w.heap.size w wc))
     case first =>
      have H := HC24.out; clear HC24
      by_cases c25 : x32_17 = true
      ·subst c25; rw [if_pos rfl] at H; replace H := aM_ H; go_wp2
       repeat (go_quiet (fail); try go_wp2)
       go_meet
       case rel => exact ⟨_, (true), eQ_, H, ⟨by have := HJ2.out; have := HJ17.out; first | omega | exact Nat.le_refl _⟩, ⟨rB_ BK227⟩, ⟨bs_ HB GE227⟩⟩
      replace c25 := eF_ c25; subst c25; rw [if_neg Bool.false_ne_true] at H
      by_cases c26 : a1 = 4
      ·rw [if_pos c26] at H; have c26b0 := bH_ c26; have c26b1 := bF_ c26; clear c26
       (first | rw [c26b0] | (simp only [i64_w, i32_w]; rw [c26b0]) | skip)
       replace H := aM_ H; go_wp2
       repeat (go_quiet (fail); try go_wp2)
       go_meet
       case rel => exact ⟨_, (false), eQ_, H, ⟨by have := HJ2.out; have := HJ17.out; first | omega | exact Nat.le_refl _⟩, ⟨rB_ BK227⟩, ⟨bs_ HB GE227⟩⟩
      rw [if_neg c26] at H; have c26b0 := bE_ c26; have c26b1 := bG_ c26
      (first | rw [c26b0] | (simp only [i64_w, i32_w]; rw [c26b0]) | skip)
      replace H := aM_ H; obtain ⟨hcz27_0, hcz27_1, hcz27_2, hcz27_3, hcz27_4, hcz27_5⟩ := cl6_ BK227.out; obtain ⟨hfz27_0, hfz27_1, hfz27_2, hfz27_3, hfz27_4, hfz27_5⟩ := fz6_ BK227.out; go_wp2
      repeat (go_quiet (fail); try go_wp2)
      go_meet
      case rel => exact ⟨_, ((a0_5.toList != ([] : List UInt8))), eQ_, H, ⟨by have := HJ2.out; have := HJ17.out; first | omega | exact Nat.le_refl _⟩, ⟨rB_ BK227⟩, ⟨bs_ HB GE227⟩⟩
     case rest =>
      clear HC24; obtain ⟨kq, x32_23, rfl, HA, HJ23, BK227, HB⟩ := hcut
      cases kq with
      | zero => exact absurd HA.out (by simp [isa_imm.j2])
      | succ kj23 =>
       have H := HA.out; clear HA; simp only [isa_imm.j2] at H
       by_cases c28 : x32_23 = true
       ·subst c28; rw [if_pos rfl] at H; obtain rfl := oI_ H; go_wp2
        repeat (go_quiet (fail); try go_wp2)
        go_ret; exact ⟨eR_, bs_ HB GE227⟩
       replace c28 := eF_ c28; subst c28; rw [if_neg Bool.false_ne_true] at H; obtain ⟨t232, A29, H⟩ := oB_ H
       by_cases c30 : t232 = 0
       ·rw [if_pos c30] at H; have c30b0 := bH_ c30; have c30b1 := bF_ c30; clear c30; obtain rfl := oI_ H
        go_wp2_with (first | (go_at_call 104; (with_reducible refine (isa_Bits.calls kj23 a1 t232 _ A29.out).mono ?_); rintro e w' ⟨rfl, ⟨nd, rfl⟩⟩; (try first | exact ⟨rfl, _, dN_⟩ | exact ⟨rfl, _, dT_⟩); obtain ⟨hcz31_0, hcz31_1, hcz31_2, hcz31_3, hcz31_4, hcz31_5⟩ := cl6_ BK227.out; obtain ⟨hfz31_0, hfz31_1, hfz31_2, hfz31_3, hfz31_4, hfz31_5⟩ := fz6_ BK227.out))
        repeat (go_quiet (first | (go_at_call 104; (with_reducible refine (isa_Bits.calls kj23 a1 t232 _ A29.out).mono ?_); rintro e w' ⟨rfl, ⟨nd, rfl⟩⟩; (try first | exact ⟨rfl, _, dN_⟩ | exact ⟨rfl, _, dT_⟩); obtain ⟨hcz31_0, hcz31_1, hcz31_2, hcz31_3, hcz31_4, hcz31_5⟩ := cl6_ BK227.out; obtain ⟨hfz31_0, hfz31_1, hfz31_2, hfz31_3, hfz31_4, hfz31_5⟩ := fz6_ BK227.out)); try go_wp2_with (first | (go_at_call 104; (with_reducible refine (isa_Bits.calls kj23 a1 t232 _ A29.out).mono ?_); rintro e w' ⟨rfl, ⟨nd, rfl⟩⟩; (try first | exact ⟨rfl, _, dN_⟩ | exact ⟨rfl, _, dT_⟩); obtain ⟨hcz31_0, hcz31_1, hcz31_2, hcz31_3, hcz31_4, hcz31_5⟩ := cl6_ BK227.out; obtain ⟨hfz31_0, hfz31_1, hfz31_2, hfz31_3, hfz31_4, hfz31_5⟩ := fz6_ BK227.out)))
        go_ret; exact ⟨eR_, bs_ HB GE227⟩
       rw [if_neg c30] at H; have c30b0 := bE_ c30; have c30b1 := bG_ c30; obtain ⟨t233, A32, H⟩ := oB_ H; obtain rfl : t232 = t233 := Option.some.inj (A29.out.symm.trans A32.out); obtain ⟨t234, A33, H⟩ := oB_ H; obtain rfl := oI_ H
       go_wp2_with (first | (go_at_call 104; (with_reducible refine (isa_Bits.calls kj23 a1 t232 _ A29.out).mono ?_); rintro e w' ⟨rfl, ⟨nd, rfl⟩⟩; (try first | exact ⟨rfl, _, dN_⟩ | exact ⟨rfl, _, dT_⟩); obtain ⟨hcz34_0, hcz34_1, hcz34_2, hcz34_3, hcz34_4, hcz34_5⟩ := cl6_ BK227.out; obtain ⟨hfz34_0, hfz34_1, hfz34_2, hfz34_3, hfz34_4, hfz34_5⟩ := fz6_ BK227.out) | (go_at_call 104; (with_reducible refine (isa_Bits.calls kj23 a1 t232 _ A32.out).mono ?_); rintro e w' ⟨rfl, ⟨nd, rfl⟩⟩; (try first | exact ⟨rfl, _, dN_⟩ | exact ⟨rfl, _, dT_⟩)) | (go_at_call 105; (with_reducible refine (word_Within.calls a0_4 t232 t234 _ A33.out).mono ?_); rintro e w' ⟨rfl, ⟨nd, rfl⟩⟩; (try first | exact ⟨rfl, _, dN_⟩ | exact ⟨rfl, _, dT_⟩)))
       repeat (go_quiet (first | (go_at_call 104; (with_reducible refine (isa_Bits.calls kj23 a1 t232 _ A29.out).mono ?_); rintro e w' ⟨rfl, ⟨nd, rfl⟩⟩; (try first | exact ⟨rfl, _, dN_⟩ | exact ⟨rfl, _, dT_⟩); obtain ⟨hcz34_0, hcz34_1, hcz34_2, hcz34_3, hcz34_4, hcz34_5⟩ := cl6_ BK227.out; obtain ⟨hfz34_0, hfz34_1, hfz34_2, hfz34_3, hfz34_4, hfz34_5⟩ := fz6_ BK227.out) | (go_at_call 104; (with_reducible refine (isa_Bits.calls kj23 a1 t232 _ A32.out).mono ?_); rintro e w' ⟨rfl, ⟨nd, rfl⟩⟩; (try first | exact ⟨rfl, _, dN_⟩ | exact ⟨rfl, _, dT_⟩)) | (go_at_call 105; (with_reducible refine (word_Within.calls a0_4 t232 t234 _ A33.out).mono ?_); rintro e w' ⟨rfl, ⟨nd, rfl⟩⟩; (try first | exact ⟨rfl, _, dN_⟩ | exact ⟨rfl, _, dT_⟩))); try go_wp2_with (first | (go_at_call 104; (with_reducible refine (isa_Bits.calls kj23 a1 t232 _ A29.out).mono ?_); rintro e w' ⟨rfl, ⟨nd, rfl⟩⟩; (try first | exact ⟨rfl, _, dN_⟩ | exact ⟨rfl, _, dT_⟩); obtain ⟨hcz34_0, hcz34_1, hcz34_2, hcz34_3, hcz34_4, hcz34_5⟩ := cl6_ BK227.out; obtain ⟨hfz34_0, hfz34_1, hfz34_2, hfz34_3, hfz34_4, hfz34_5⟩ := fz6_ BK227.out) | (go_at_call 104; (with_reducible refine (isa_Bits.calls kj23 a1 t232 _ A32.out).mono ?_); rintro e w' ⟨rfl, ⟨nd, rfl⟩⟩; (try first | exact ⟨rfl, _, dN_⟩ | exact ⟨rfl, _, dT_⟩)) | (go_at_call 105; (with_reducible refine (word_Within.calls a0_4 t232 t234 _ A33.out).mono ?_); rintro e w' ⟨rfl, ⟨nd, rfl⟩⟩; (try first | exact ⟨rfl, _, dN_⟩ | exact ⟨rfl, _, dT_⟩))))
       go_ret; exact ⟨eR_, bs_ HB GE227⟩
end
end Go.Proofs.YtibfkkjkahpobaaGreat.PDag
