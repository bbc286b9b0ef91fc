import Derived.Test.YtibfkkjkahpobaaMx15
import Derived.Test.YtibfkkjkahpobaaMx16
import Derived.Test.YtibfkkjkahpobaaMx20
import Derived.Test.YtibfkkjkahpobaaMx27
set_option linter.unusedVariables false
set_option linter.unusedSimpArgs false
set_option maxHeartbeats 8000000
set_option maxRecDepth 100000
open Go.RowKit Go.Proofs.YtibfkkjkahpobaaW.PrintWords Go.Proofs.YtibfkkjkahpobaaW.PrintLast Go.Proofs.YtibfkkjkahpobaaW.PrintMore
namespace Go.Proofs.Ytibfkkjkahpobaa.PDag
section
attribute [local go_sem] max2_int min2_int max_two min_two max_three min_three max_four min_four
mutual
def isa_May.j0 : Nat → Int → Int → Bool → Option (Bool)
  | 0, _, _, _ => none
  | k + 1, x0, x1, x15 => if x15 = true then (some false) else (if x0 = 0 then (some true) else (if x0 = 14 then (isa_May.j1 k x0 x1 x0 (x0 == 14)) else (if x0 = 15 then (isa_May.j1 k x0 x1 x0 (x0 == 15)) else (if x0 = 16 then (isa_May.j1 k x0 x1 x0 (x0 == 16)) else (if x0 = 17 then (isa_May.j1 k x0 x1 x0 (x0 == 17)) else (isa_May.j1 k x0 x1 x0 (x0 == 20)))))))
def isa_May.j1 : Nat → Int → Int → Int → Bool → Option (Bool)
  | 0, _, _, _, _ => none
  | k + 1, x0, x1, x16, x19 => if x19 = true then (some (x1 == 3)) else (if x16 = 18 then (isa_May.j2 k x0 x1 x16 (x16 == 18)) else (if x16 = 19 then (isa_May.j2 k x0 x1 x16 (x16 == 19)) else (isa_May.j2 k x0 x1 x16 (x16 == 21))))
def isa_May.j2 : Nat → Int → Int → Int → Bool → Option (Bool)
  | 0, _, _, _, _ => none
  | k + 1, x0, x1, x16, x27 => if x27 = true then (some (x1 == 1)) else (if x16 = 24 then (isa_May.j3 k x0 x1 (x16 == 24)) else (if x16 = 25 then (isa_May.j3 k x0 x1 (x16 == 25)) else (if x16 = 26 then (isa_May.j3 k x0 x1 (x16 == 26)) else (isa_May.j3 k x0 x1 (x16 == 27)))))
def isa_May.j3 : Nat → Int → Int → Bool → Option (Bool)
  | 0, _, _, _ => none
  | k + 1, x0, x1, x33 => if x33 = true then (some (x1 == 2)) else (if x1 = 0 then (some true) else (if x1 = 1 then ((isa_Ends.f x0).bind fun t577 => (some (!t577))) else (some false)))
end
def isa_May.f (k : Nat) (a0 : Int) (a1 : Int) : Option (Bool) := (isa_Is.f a0).bind fun t576 => (if t576 = true then (if a1 < 0 then (isa_May.j0 k a0 a1 true) else (isa_May.j0 k a0 a1 (decide (a1 > 3)))) else (isa_May.j0 k a0 a1 true))
theorem isa_May.mono_l : ∀ k, (∀ y0 y1 y2, LeO (isa_May.j0 k y0 y1 y2) (isa_May.j0 (k + 1) y0 y1 y2)) ∧ (∀ y0 y1 y2 y3, LeO (isa_May.j1 k y0 y1 y2 y3) (isa_May.j1 (k + 1) y0 y1 y2 y3)) ∧ (∀ y0 y1 y2 y3, LeO (isa_May.j2 k y0 y1 y2 y3) (isa_May.j2 (k + 1) y0 y1 y2 y3)) ∧ (∀ y0 y1 y2, LeO (isa_May.j3 k y0 y1 y2) (isa_May.j3 (k + 1) y0 y1 y2))
  | 0 => ⟨fun _ _ _ r h => by simp [isa_May.j0] at h, fun _ _ _ _ r h => by simp [isa_May.j1] at h, fun _ _ _ _ r h => by simp [isa_May.j2] at h, fun _ _ _ r h => by simp [isa_May.j3] at h⟩
  | k + 1 => by
    obtain ⟨ih0, ih1, ih2, ih3⟩ := isa_May.mono_l k
    refine ⟨?_, ?_, ?_, ?_⟩
    · intro y0 y1 y2
      unfold isa_May.j0
      repeat' first
      | (with_reducible exact ih0 _ _ _)
      | (with_reducible exact ih1 _ _ _ _)
      | (with_reducible exact ih2 _ _ _ _)
      | (with_reducible exact ih3 _ _ _)
      | (with_reducible exact LeO.refl _)
      | (with_reducible exact LeO.none _)
      | (with_reducible refine LeO.ite ?_ ?_)
      | (with_reducible refine LeO.bind ?_ (fun _ => ?_))
      | exact LeO.none _
      | refine LeO.ite ?_ ?_
      | refine LeO.bind ?_ (fun _ => ?_)
    · intro y0 y1 y2 y3
      unfold isa_May.j1
      repeat' first
      | (with_reducible exact ih0 _ _ _)
      | (with_reducible exact ih1 _ _ _ _)
      | (with_reducible exact ih2 _ _ _ _)
      | (with_reducible exact ih3 _ _ _)
      | (with_reducible exact LeO.refl _)
      | (with_reducible exact LeO.none _)
      | (with_reducible refine LeO.ite ?_ ?_)
      | (with_reducible refine LeO.bind ?_ (fun _ => ?_))
      | exact LeO.none _
      | refine LeO.ite ?_ ?_
      | refine LeO.bind ?_ (fun _ => ?_)
    · intro y0 y1 y2 y3
      unfold isa_May.j2
      repeat' first
      | (with_reducible exact ih0 _ _ _)
      | (with_reducible exact ih1 _ _ _ _)
      | (with_reducible exact ih2 _ _ _ _)
      | (with_reducible exact ih3 _ _ _)
      | (with_reducible exact LeO.refl _)
      | (with_reducible exact LeO.none _)
      | (with_reducible refine LeO.ite ?_ ?_)
      | (with_reducible refine LeO.bind ?_ (fun _ => ?_))
      | exact LeO.none _
      | refine LeO.ite ?_ ?_
      | refine LeO.bind ?_ (fun _ => ?_)
    · intro y0 y1 y2
      unfold isa_May.j3
      repeat' first
      | (with_reducible exact ih0 _ _ _)
      | (with_reducible exact ih1 _ _ _ _)
      | (with_reducible exact ih2 _ _ _ _)
      | (with_reducible exact ih3 _ _ _)
      | (with_reducible exact LeO.refl _)
      | (with_reducible exact LeO.none _)
      | (with_reducible refine LeO.ite ?_ ?_)
      | (with_reducible refine LeO.bind ?_ (fun _ => ?_))
      | exact LeO.none _
      | refine LeO.ite ?_ ?_
      | refine LeO.bind ?_ (fun _ => ?_)
theorem isa_May.mono : ∀ a0 a1 k, LeO (isa_May.f k a0 a1) (isa_May.f (k + 1) a0 a1) := by
 intro a0 a1 k
 obtain ⟨ih0, ih1, ih2, ih3⟩ := isa_May.mono_l k
 unfold isa_May.f
 repeat' first
  | (with_reducible exact ih0 _ _ _)
  | (with_reducible exact ih1 _ _ _ _)
  | (with_reducible exact ih2 _ _ _ _)
  | (with_reducible exact ih3 _ _ _)
  | (with_reducible exact LeO.refl _)
  | (with_reducible exact LeO.none _)
  | (with_reducible refine LeO.ite ?_ ?_)
  | (with_reducible refine LeO.bind ?_ (fun _ => ?_))
  | exact LeO.none _
  | refine LeO.ite ?_ ?_
  | refine LeO.bind ?_ (fun _ => ?_)
theorem isa_May.calls (k : Nat) (a0 : Int) (a1 : Int) (r : Bool) (w : World) (h : isa_May.f k a0 a1 = some r) :
    Calls Try.prog 87 #[.int .i64 a0, .int .i64 a1] w fun e w' => e = .returned (.bool r) ∧ Dr_ w w' := by
 have H : ((isa_Is.f a0).bind fun t576 => (if t576 = true then (if a1 < 0 then (isa_May.j0 k a0 a1 true) else (isa_May.j0 k a0 a1 (decide (a1 > 3)))) else (isa_May.j0 k a0 a1 true))) = some r := h
 clear h
 have HC3 := aM_ H
 clear H
 go_enter Try.func87, Try.ntmps87
 go_upto_region 1 with (fail)
 go_cut [15] (fun v15 wc => ∃ (kq : Nat) (x15_2 : Bool), v15 = .bool x15_2 ∧ As_ (isa_May.j0 kq a0 a1 x15_2 = some r) ∧ As_ (kq ≤ k) ∧ Dr_ w wc)
 case first =>
  have H := HC3.out
  clear HC3
  replace H := oB_ H
  obtain ⟨t576, A4, H⟩ := H
  by_cases c5 : t576 = true
  ·subst c5
   rw [if_pos rfl] at H
   by_cases c6 : a1 < 0
   ·rw [if_pos c6] at H
    have c6b0 := dE_ c6
    clear c6
    (first | rw [c6b0] | (simp only [i64_w, i32_w]; rw [c6b0]) | skip)
    replace H := aM_ H
    go_wp2_with (first | ((with_reducible refine gC_ (f := 96) rfl ?_); refine gL_ (some 6) Try.func96 #[.int .i64 a0] rfl ?_; (with_reducible refine (isa_Is.calls a0 true _ A4.out).mono ?_); rintro e w' ⟨rfl, ⟨nd, rfl⟩⟩; refine ⟨_, rfl, ?_⟩))
    go_meet
    case rel => exact ⟨_, (true), eQ_, H, ⟨by first | omega | exact Nat.le_refl _⟩, dR_⟩
   rw [if_neg c6] at H
   have c6b0 := dF_ c6
   clear c6
   (first | rw [c6b0] | (simp only [i64_w, i32_w]; rw [c6b0]) | skip)
   replace H := aM_ H
   go_wp2_with (first | ((with_reducible refine gC_ (f := 96) rfl ?_); refine gL_ (some 6) Try.func96 #[.int .i64 a0] rfl ?_; (with_reducible refine (isa_Is.calls a0 true _ A4.out).mono ?_); rintro e w' ⟨rfl, ⟨nd, rfl⟩⟩; refine ⟨_, rfl, ?_⟩))
   go_meet
   case rel => exact ⟨_, (decide (a1 > 3)), eQ_, H, ⟨by first | omega | exact Nat.le_refl _⟩, dR_⟩
  replace c5 := eF_ c5
  subst c5
  rw [if_neg Bool.false_ne_true] at H
  replace H := aM_ H
  go_wp2_with (first | ((with_reducible refine gC_ (f := 96) rfl ?_); refine gL_ (some 6) Try.func96 #[.int .i64 a0] rfl ?_; (with_reducible refine (isa_Is.calls a0 false _ A4.out).mono ?_); rintro e w' ⟨rfl, ⟨nd, rfl⟩⟩; refine ⟨_, rfl, ?_⟩))
  go_meet
  case rel => exact ⟨_, (true), eQ_, H, ⟨by first | omega | exact Nat.le_refl _⟩, dR_⟩
 case rest =>
  clear HC3
  obtain ⟨kq, x15_2, rfl, HA, HJ2, ⟨mc2, rfl⟩⟩ := hcut
  cases kq with
  | zero => exact absurd HA.out (by simp [isa_May.j0])
  | succ kj2 =>
   have H := HA.out
   clear HA
   simp only [isa_May.j0] at H
   by_cases c7 : x15_2 = true
   ·subst c7
    rw [if_pos rfl] at H
    obtain rfl := oI_ H
    go_wp2
    go_ret
    exact ⟨eQ_, dR_⟩
   replace c7 := eF_ c7
   subst c7
   rw [if_neg Bool.false_ne_true] at H
   by_cases c8 : a0 = 0
   ·rw [if_pos c8] at H
    have c8b0 := bH_ c8
    have c8b1 := bF_ c8
    clear c8
    obtain rfl := oI_ H
    go_wp2
    go_ret
    exact ⟨eQ_, dR_⟩
   rw [if_neg c8] at H
   have c8b0 := bE_ c8
   have c8b1 := bG_ c8
   have HC9 := aM_ H
   clear H
   go_upto_if 19 with (fail)
   go_cut [19] (fun v19 wc => ∃ (kq : Nat) (x19_8 : Bool), v19 = .bool x19_8 ∧ As_ (isa_May.j1 kq a0 a1 a0 x19_8 = some r) ∧ As_ (kq ≤ kj2) ∧ Dr_ w wc)
   case first =>
    have H := HC9.out
    clear HC9
    by_cases c10 : a0 = 14
    ·rw [if_pos c10] at H
     have c10b0 := bH_ c10
     have c10b1 := bF_ c10
     clear c10
     (first | rw [c10b0] | (simp only [i64_w, i32_w]; rw [c10b0]) | skip)
     replace H := aM_ H
     go_wp2
     go_meet
     case rel => exact ⟨_, ((a0 == 14)), eQ_, H, ⟨by have := HJ2.out; first | omega | exact Nat.le_refl _⟩, dR_⟩
    rw [if_neg c10] at H
    have c10b0 := bE_ c10
    have c10b1 := bG_ c10
    (first | rw [c10b0] | (simp only [i64_w, i32_w]; rw [c10b0]) | skip)
    by_cases c11 : a0 = 15
    ·rw [if_pos c11] at H
     have c11b0 := bH_ c11
     have c11b1 := bF_ c11
     clear c11
     replace H := aM_ H
     go_wp2
     go_meet
     case rel => exact ⟨_, ((a0 == 15)), eQ_, H, ⟨by have := HJ2.out; first | omega | exact Nat.le_refl _⟩, dR_⟩
    rw [if_neg c11] at H
    have c11b0 := bE_ c11
    have c11b1 := bG_ c11
    by_cases c12 : a0 = 16
    ·rw [if_pos c12] at H
     have c12b0 := bH_ c12
     have c12b1 := bF_ c12
     clear c12
     replace H := aM_ H
     go_wp2
     go_meet
     case rel => exact ⟨_, ((a0 == 16)), eQ_, H, ⟨by have := HJ2.out; first | omega | exact Nat.le_refl _⟩, dR_⟩
    rw [if_neg c12] at H
    have c12b0 := bE_ c12
    have c12b1 := bG_ c12
    by_cases c13 : a0 = 17
    ·rw [if_pos c13] at H
     have c13b0 := bH_ c13
     have c13b1 := bF_ c13
     clear c13
     replace H := aM_ H
     go_wp2
     go_meet
     case rel => exact ⟨_, ((a0 == 17)), eQ_, H, ⟨by have := HJ2.out; first | omega | exact Nat.le_refl _⟩, dR_⟩
    rw [if_neg c13] at H
    have c13b0 := bE_ c13
    have c13b1 := bG_ c13
    replace H := aM_ H
    go_wp2
    go_meet
    case rel => exact ⟨_, ((a0 == 20)), eQ_, H, ⟨by have := HJ2.out; first | omega | exact Nat.le_refl _⟩, dR_⟩
   case rest =>
    clear HC9
    obtain ⟨kq, x19_8, rfl, HA, HJ8, ⟨mc8, rfl⟩⟩ := hcut
    cases kq with
    | zero => exact absurd HA.out (by simp [isa_May.j1])
    | succ kj8 =>
     have H := HA.out
     clear HA
     simp only [isa_May.j1] at H
     by_cases c14 : x19_8 = true
     ·subst c14
      rw [if_pos rfl] at H
      obtain rfl := oI_ H
      go_wp2
      go_ret
      exact ⟨eQ_, dR_⟩
     replace c14 := eF_ c14
     subst c14
     rw [if_neg Bool.false_ne_true] at H
     have HC15 := aM_ H
     clear H
     go_upto_if 27 with (fail)
     go_cut [27] (fun v27 wc => ∃ (kq : Nat) (x27_14 : Bool), v27 = .bool x27_14 ∧ As_ (isa_May.j2 kq a0 a1 a0 x27_14 = some r) ∧ As_ (kq ≤ kj8) ∧ Dr_ w wc)
     case first =>
      have H := HC15.out
      clear HC15
      by_cases c16 : a0 = 18
      ·rw [if_pos c16] at H
       have c16b0 := bH_ c16
       have c16b1 := bF_ c16
       clear c16
       (first | rw [c16b0] | (simp only [i64_w, i32_w]; rw [c16b0]) | skip)
       replace H := aM_ H
       go_wp2
       go_meet
       case rel => exact ⟨_, ((a0 == 18)), eQ_, H, ⟨by have := HJ2.out; have := HJ8.out; first | omega | exact Nat.le_refl _⟩, dR_⟩
      rw [if_neg c16] at H
      have c16b0 := bE_ c16
      have c16b1 := bG_ c16
      (first | rw [c16b0] | (simp only [i64_w, i32_w]; rw [c16b0]) | skip)
      by_cases c17 : a0 = 19
      ·rw [if_pos c17] at H
       have c17b0 := bH_ c17
       have c17b1 := bF_ c17
       clear c17
       replace H := aM_ H
       go_wp2
       go_meet
       case rel => exact ⟨_, ((a0 == 19)), eQ_, H, ⟨by have := HJ2.out; have := HJ8.out; first | omega | exact Nat.le_refl _⟩, dR_⟩
      rw [if_neg c17] at H
      have c17b0 := bE_ c17
      have c17b1 := bG_ c17
      replace H := aM_ H
      go_wp2
      go_meet
      case rel => exact ⟨_, ((a0 == 21)), eQ_, H, ⟨by have := HJ2.out; have := HJ8.out; first | omega | exact Nat.le_refl _⟩, dR_⟩
     case rest =>
      clear HC15
      obtain ⟨kq, x27_14, rfl, HA, HJ14, ⟨mc14, rfl⟩⟩ := hcut
      cases kq with
      | zero => exact absurd HA.out (by simp [isa_May.j2])
      | succ kj14 =>
       have H := HA.out
       clear HA
       simp only [isa_May.j2] at H
       by_cases c18 : x27_14 = true
       ·subst c18
        rw [if_pos rfl] at H
        obtain rfl := oI_ H
        go_wp2
        go_ret
        exact ⟨eQ_, dR_⟩
       replace c18 := eF_ c18
       subst c18
       rw [if_neg Bool.false_ne_true] at H
       have HC19 := aM_ H
       clear H
       go_upto_if 33 with (fail)
       go_cut [33] (fun v33 wc => ∃ (kq : Nat) (x33_18 : Bool), v33 = .bool x33_18 ∧ As_ (isa_May.j3 kq a0 a1 x33_18 = some r) ∧ As_ (kq ≤ kj14) ∧ Dr_ w wc)
       case first =>
        have H := HC19.out
        clear HC19
        by_cases c20 : a0 = 24
        ·rw [if_pos c20] at H
         have c20b0 := bH_ c20
         have c20b1 := bF_ c20
         clear c20
         (first | rw [c20b0] | (simp only [i64_w, i32_w]; rw [c20b0]) | skip)
         replace H := aM_ H
         go_wp2
         go_meet
         case rel => exact ⟨_, ((a0 == 24)), eQ_, H, ⟨by have := HJ2.out; have := HJ8.out; have := HJ14.out; first | omega | exact Nat.le_refl _⟩, dR_⟩
        rw [if_neg c20] at H
        have c20b0 := bE_ c20
        have c20b1 := bG_ c20
        (first | rw [c20b0] | (simp only [i64_w, i32_w]; rw [c20b0]) | skip)
        by_cases c21 : a0 = 25
        ·rw [if_pos c21] at H
         have c21b0 := bH_ c21
         have c21b1 := bF_ c21
         clear c21
         replace H := aM_ H
         go_wp2
         go_meet
         case rel => exact ⟨_, ((a0 == 25)), eQ_, H, ⟨by have := HJ2.out; have := HJ8.out; have := HJ14.out; first | omega | exact Nat.le_refl _⟩, dR_⟩
        rw [if_neg c21] at H
        have c21b0 := bE_ c21
        have c21b1 := bG_ c21
        by_cases c22 : a0 = 26
        ·rw [if_pos c22] at H
         have c22b0 := bH_ c22
         have c22b1 := bF_ c22
         clear c22
         replace H := aM_ H
         go_wp2
         go_meet
         case rel => exact ⟨_, ((a0 == 26)), eQ_, H, ⟨by have := HJ2.out; have := HJ8.out; have := HJ14.out; first | omega | exact Nat.le_refl _⟩, dR_⟩
        rw [if_neg c22] at H
        have c22b0 := bE_ c22
        have c22b1 := bG_ c22
        replace H := aM_ H
        go_wp2
        go_meet
        case rel => exact ⟨_, ((a0 == 27)), eQ_, H, ⟨by have := HJ2.out; have := HJ8.out; have := HJ14.out; first | omega | exact Nat.le_refl _⟩, dR_⟩
       case rest =>
        clear HC19
        obtain ⟨kq, x33_18, rfl, HA, HJ18, ⟨mc18, rfl⟩⟩ := hcut
        cases kq with
        | zero => exact absurd HA.out (by simp [isa_May.j3])
        | succ kj18 =>
         have H := HA.out
         clear HA
         simp only [isa_May.j3] at H
         by_cases c23 : x33_18 = true
         ·subst c23
          rw [if_pos rfl] at H
          obtain rfl := oI_ H
          go_wp2
          go_ret
          exact ⟨eQ_, dR_⟩
         replace c23 := eF_ c23
         subst c23
         rw [if_neg Bool.false_ne_true] at H
         by_cases c24 : a1 = 0
         ·rw [if_pos c24] at H
          have c24b0 := bH_ c24
          have c24b1 := bF_ c24
          clear c24
          obtain rfl := oI_ H
          go_wp2
          go_ret
          exact ⟨eQ_, dR_⟩
         rw [if_neg c24] at H
         have c24b0 := bE_ c24
         have c24b1 := bG_ c24
         by_cases c25 : a1 = 1
         ·rw [if_pos c25] at H
          have c25b0 := bH_ c25
          have c25b1 := bF_ c25
          clear c25
          replace H := oB_ H
          obtain ⟨t577, A26, H⟩ := H
          obtain rfl := oI_ H
          go_wp2_with (first | (go_at_call 64; (with_reducible refine (isa_Ends.calls a0 t577 _ A26.out).mono ?_); rintro e w' ⟨rfl, ⟨nd, rfl⟩⟩))
          go_ret
          exact ⟨eQ_, dR_⟩
         rw [if_neg c25] at H
         have c25b0 := bE_ c25
         have c25b1 := bG_ c25
         obtain rfl := oI_ H
         go_wp2
         go_ret
         exact ⟨eQ_, dR_⟩
def w15_num.f (a0 : Int) : Option (Int) := some a0
theorem w15_num.calls (a0 : Int) (r : Int) (w : World) (h : w15_num.f a0 = some r) :
    Calls Try.prog 48 #[.int .i64 a0] w fun e w' => e = .returned (.int .i64 r) ∧ Dr_ w w' := by
 have H : (some a0) = some r := h
 clear h
 obtain rfl := oI_ H
 go_enter Try.func48, Try.ntmps48
 go_wp2
 go_ret
 exact ⟨eQ_, dR_⟩
def IsS102 (w0 W : World) (g : Nat) (f0 : List (S24)) (f1 : List (List (S51))) (f2 : List Int) (f3 : List Int) (f4 : List Int) (f5 : List Int) (f6 : Int) : Prop := ∃ A0 c0, ∃ A1 c1, ∃ A2 c2, ∃ A3 c3, ∃ A4 c4, ∃ A5 c5, W.heap[g]? = some (.cells #[.slice A0 f0.length c0, .slice A1 f1.length c1, .slice A2 f2.length c2, .slice A3 f3.length c3, .slice A4 f4.length c4, .slice A5 f5.length c5, .int .i64 f6] 102 (0, 0)) ∧ w0.heap.size ≤ g ∧ Kd.C k24 w0 A0 f0.length f0 ∧ Kd.C (Kd.slice 51 k51) w0 A1 f1.length f1 ∧ Kd.C (Kd.int .i64) w0 A2 f2.length f2 ∧ Kd.C (Kd.int .i64) w0 A3 f3.length f3 ∧ Kd.C (Kd.int .i64) w0 A4 f4.length f4 ∧ Kd.C (Kd.int .i64) w0 A5 f5.length f5
theorem IsS102.grown {w0 W : World} {g : Nat} {f0 : List (S24)} {f1 : List (List (S51))} {f2 : List Int} {f3 : List Int} {f4 : List Int} {f5 : List Int} {f6 : Int} {W1 : World} {row : Option Nat} (h : IsS102 w0 W g f0 f1 f2 f3 f4 f5 f6) (hw : W.grownBy W1 row) (hne : some g ≠ row) : IsS102 w0 W1 g f0 f1 f2 f3 f4 f5 f6 := by
 obtain ⟨A0, c0, A1, c1, A2, c2, A3, c3, A4, c4, A5, c5, hb, hg, hr0, hr1, hr2, hr3, hr4, hr5⟩ := h
 exact ⟨A0, c0, A1, c1, A2, c2, A3, c3, A4, c4, A5, c5, blk_grown hb hw hne, hg, hr0, hr1, hr2, hr3, hr4, hr5⟩
theorem IsS102.kept {w0 W : World} {g : Nat} {f0 : List (S24)} {f1 : List (List (S51))} {f2 : List Int} {f3 : List Int} {f4 : List Int} {f5 : List Int} {f6 : Int} {W1 : World} {S : Nat → Prop} (h : IsS102 w0 W g f0 f1 f2 f3 f4 f5 f6) (hk : Kept W W1 S) (hne : ¬ S g) : IsS102 w0 W1 g f0 f1 f2 f3 f4 f5 f6 := by
 obtain ⟨A0, c0, A1, c1, A2, c2, A3, c3, A4, c4, A5, c5, hb, hg, hr0, hr1, hr2, hr3, hr4, hr5⟩ := h
 exact ⟨A0, c0, A1, c1, A2, c2, A3, c3, A4, c4, A5, c5, blk_kept hb hk hne, hg, hr0, hr1, hr2, hr3, hr4, hr5⟩
theorem IsS102.below {w0 W : World} {g : Nat} {f0 : List (S24)} {f1 : List (List (S51))} {f2 : List Int} {f3 : List Int} {f4 : List Int} {f5 : List Int} {f6 : Int} {W1 : World} (h : IsS102 w0 W g f0 f1 f2 f3 f4 f5 f6) (hw : Below W.heap.size W W1) : IsS102 w0 W1 g f0 f1 f2 f3 f4 f5 f6 := h.grown (grown_of_below hw none) (by simp)
theorem IsS102.alloc {w0 W : World} {g : Nat} {f0 : List (S24)} {f1 : List (List (S51))} {f2 : List Int} {f3 : List Int} {f4 : List Int} {f5 : List Int} {f6 : Int} (h : IsS102 w0 W g f0 f1 f2 f3 f4 f5 f6) (o : Obj) : IsS102 w0 (W.alloc o) g f0 f1 f2 f3 f4 f5 f6 := h.below (bA_ (Below.refl _ _) o)
theorem IsS102.drewN {w0 W : World} {g : Nat} {f0 : List (S24)} {f1 : List (List (S51))} {f2 : List Int} {f3 : List Int} {f4 : List Int} {f5 : List Int} {f6 : Int} (h : IsS102 w0 W g f0 f1 f2 f3 f4 f5 f6) (m : Nat) : IsS102 w0 (W.drewN m) g f0 f1 f2 f3 f4 f5 f6 := h
theorem IsS102.drew {w0 W : World} {g : Nat} {f0 : List (S24)} {f1 : List (List (S51))} {f2 : List Int} {f3 : List Int} {f4 : List Int} {f5 : List Int} {f6 : Int} (h : IsS102 w0 W g f0 f1 f2 f3 f4 f5 f6) : IsS102 w0 W.drew g f0 f1 f2 f3 f4 f5 f6 := h
theorem IsS102.at_ {w0 W : World} {g : Nat} {f0 : List (S24)} {f1 : List (List (S51))} {f2 : List Int} {f3 : List Int} {f4 : List Int} {f5 : List Int} {f6 : Int} {w' : World} {m : Nat} (hq : W.drewN m = w') (h : IsS102 w0 W g f0 f1 f2 f3 f4 f5 f6) : IsS102 w0 w' g f0 f1 f2 f3 f4 f5 f6 := by subst hq; exact IsS102.drewN h m
theorem IsS102.apart {w0 W : World} {g : Nat} {f0 : List (S24)} {f1 : List (List (S51))} {f2 : List Int} {f3 : List Int} {f4 : List Int} {f5 : List Int} {f6 : Int} {α : Type} {d : Kd α} {e : Nat} {base : Nat} {ok : Nat → Prop} {v : Value} {xs : List α} (h : IsS102 w0 W g f0 f1 f2 f3 f4 f5 f6) (ho : d.R e W base ok v xs) (ht : ∀ q, q ∈ e :: d.E → q ≠ 102) : d.R e W base (fun k => ok k ∧ k ≠ g) v xs := by
 obtain ⟨A0, c0, A1, c1, A2, c2, A3, c3, A4, c4, A5, c5, hb, hg, hr0, hr1, hr2, hr3, hr4, hr5⟩ := h
 exact Kd.R_types ho hb ht
theorem IsS102.own_ne {w0 W : World} {g : Nat} {f0 : List (S24)} {f1 : List (List (S51))} {f2 : List Int} {f3 : List Int} {f4 : List Int} {f5 : List Int} {f6 : Int} {α : Type} {d : Kd α} {e : Nat} {base : Nat} {ok : Nat → Prop} {v : Value} {xs : List α} (h : IsS102 w0 W g f0 f1 f2 f3 f4 f5 f6) (ho : d.R e W base ok v xs) (ht : e ≠ 102) : some g ≠ v.ownBlock := by
 obtain ⟨A0, c0, A1, c1, A2, c2, A3, c3, A4, c4, A5, c5, hb, hg, hr0, hr1, hr2, hr3, hr4, hr5⟩ := h
 exact Kd.R_ne ho hb ht
theorem IsS102.lt {w0 W : World} {g : Nat} {f0 : List (S24)} {f1 : List (List (S51))} {f2 : List Int} {f3 : List Int} {f4 : List Int} {f5 : List Int} {f6 : Int} (h : IsS102 w0 W g f0 f1 f2 f3 f4 f5 f6) : g < W.heap.size := by
 obtain ⟨A0, c0, A1, c1, A2, c2, A3, c3, A4, c4, A5, c5, hb, hg, hr0, hr1, hr2, hr3, hr4, hr5⟩ := h
 exact blk_lt hb
theorem IsS102.ge {w0 W : World} {g : Nat} {f0 : List (S24)} {f1 : List (List (S51))} {f2 : List Int} {f3 : List Int} {f4 : List Int} {f5 : List Int} {f6 : Int} (h : IsS102 w0 W g f0 f1 f2 f3 f4 f5 f6) : w0.heap.size ≤ g := by
 obtain ⟨A0, c0, A1, c1, A2, c2, A3, c3, A4, c4, A5, c5, hb, hg, hr0, hr1, hr2, hr3, hr4, hr5⟩ := h
 exact hg
end
section
structure PSt where
  at_ : List Int
  sl : List Int
  left : Int
def rdy (E : List S51) (a : List Int) (i : Nat) (c : Int) : Bool := E.all fun e => e.f1 != (i : Int) || (decide (0 ≤ rd a e.f0) && decide (rd a e.f0 + e.f2 ≤ c))
def cand (may : Nat → Int → Bool) (E : List S51) (a : List Int) (c s : Int) (i : Nat) : Bool := may i s && (decide (rd a i < 0) && rdy E a i c)
def better (U H : List Int) (b i : Int) : Bool := decide (b < 0) || (decide (rd U i < rd U b) || (rd U i == rd U b && decide (rd H b < rd H i)))
def bestUp (p : Nat → Bool) (U H : List Int) : Nat → Int
  | 0 => -1
  | i + 1 => if (p i && better U H (bestUp p U H i) i) = true then (i : Int) else bestUp p U H i
section
variable (may : Nat → Int → Bool) (n : Nat) (E : List S51) (U H : List Int)
def slotStep (x : PSt) (cs : Int × Int) : PSt :=
  let b := bestUp (cand may E x.at_ cs.1 cs.2) U H n
  if 0 ≤ b then ⟨x.at_.set b.toNat cs.1, x.sl.set b.toNat cs.2, x.left - 1⟩ else x
def four4 (c : Int) : List (Int × Int) := [(c, 0), (c, 1), (c, 2), (c, 3)]
def cycStep (x : PSt) (c : Int) : PSt := (four4 c).foldl (slotStep may n E U H) x
def runN : Nat → Int → PSt → PSt
  | 0, _, x => x
  | f + 1, c, x => if 0 < x.left then runN f (c + 1) (cycStep may n E U H x c) else x
end
theorem bestUp_range (p : Nat → Bool) (U H : List Int) : ∀ n, bestUp p U H n = -1 ∨ ∃ i : Nat, i < n ∧ bestUp p U H n = (i : Int) ∧ p i = true
  | 0 => .inl rfl
  | n + 1 => by
    rw [bestUp]
    by_cases h : (p n && better U H (bestUp p U H n) n) = true
    · rw [if_pos h]
      simp only [Bool.and_eq_true] at h
      exact .inr ⟨n, by omega, rfl, h.1⟩
    · rw [if_neg h]
      rcases bestUp_range p U H n with h1 | ⟨i, h1, h2⟩
      · exact .inl h1
      · exact .inr ⟨i, by omega, h2⟩
theorem bestUp_some (p : Nat → Bool) (U H : List Int) : ∀ (n i : Nat), i < n → p i = true → 0 ≤ bestUp p U H n
  | n + 1, i, hi, hp => by
    rw [bestUp]
    by_cases h : (p n && better U H (bestUp p U H n) n) = true
    · rw [if_pos h]; omega
    · rw [if_neg h]
      by_cases hin : i = n
      · subst hin
        rw [hp, Bool.true_and] at h
        unfold better at h
        by_cases hb : bestUp p U H i < 0
        · rw [decide_eq_true hb] at h; simp at h
        · omega
      · exact bestUp_some p U H n i (by omega) hp
theorem bestUp_congr (p q : Nat → Bool) (U H : List Int) : ∀ n, (∀ i, i < n → p i = q i) → bestUp p U H n = bestUp q U H n
  | 0, _ => rfl
  | n + 1, h => by rw [bestUp, bestUp, bestUp_congr p q U H n (fun i hi => h i (by omega)), h n (by omega)]
theorem rd_lt (h : List Int) (i : Nat) (hi : i < h.length) : rd h (i : Int) = h[i] := by
  unfold rd
  rw [Int.toNat_natCast, List.getD_eq_getElem?_getD, List.getElem?_eq_getElem hi]; rfl
theorem rd_same (h : List Int) (i : Nat) (v : Int) (hi : i < h.length) : rd (h.set i v) (i : Int) = v := by
  rw [rd_lt _ i (by simpa using hi)]; simp
theorem rd_other (h : List Int) (i t : Nat) (v : Int) (hne : t ≠ i) : rd (h.set i v) (t : Int) = rd h (t : Int) := by
  unfold rd
  rw [Int.toNat_natCast, List.getD_eq_getElem?_getD, List.getD_eq_getElem?_getD, List.getElem?_set_ne (fun e => hne e.symm)]
def opens_ (a : List Int) : Nat := a.countP (fun v => decide (v < 0))
theorem open_set : ∀ (a : List Int) (i : Nat) (v : Int), i < a.length → rd a i < 0 → 0 ≤ v → opens_ (a.set i v) + 1 = opens_ a
  | [], i, v, h, _, _ => absurd h (Nat.not_lt_zero _)
  | x :: a, 0, v, h, h1, h2 => by
    have hx : x < 0 := by simpa [rd] using h1
    simp only [opens_, List.set_cons_zero, List.countP_cons]
    rw [if_neg (by simpa using h2), if_pos (by simpa using hx)]
  | x :: a, i + 1, v, h, h1, h2 => by
    have h1' : rd a i < 0 := by simpa [rd] using h1
    have := open_set a i v (by simpa using h) h1' h2
    simp only [opens_, List.set_cons_succ, List.countP_cons] at this ⊢
    omega
theorem open_some : ∀ (a : List Int), 0 < opens_ a → ∃ i : Nat, i < a.length ∧ rd a i < 0 ∧ ∀ j : Nat, j < i → 0 ≤ rd a j
  | [], h => absurd h (by simp [opens_])
  | x :: a, h => by
    by_cases hx : x < 0
    · exact ⟨0, by simp, by simpa [rd] using hx, fun j hj => absurd hj (Nat.not_lt_zero _)⟩
    · simp only [opens_, List.countP_cons] at h
      rw [if_neg (by simpa using hx)] at h
      obtain ⟨i, h1, h2, h3⟩ := open_some a (by simpa [opens_] using h)
      refine ⟨i + 1, by simpa using h1, by simpa [rd] using h2, fun j hj => ?_⟩
      cases j with
      | zero => simp [rd]; omega
      | succ j => simpa [rd] using h3 j (by omega)
theorem open_none (a : List Int) (h : opens_ a = 0) : ∀ i : Nat, i < a.length → 0 ≤ rd a i := by
  intro i hi
  rw [rd_lt a i hi]
  have := List.countP_eq_zero.1 h a[i] (List.getElem_mem hi)
  simpa using this
structure PGood (n : Nat) (c : Int) (x : PSt) : Prop where
  len : x.at_.length = n
  len2 : x.sl.length = n
  left : x.left = (opens_ x.at_ : Int)
  up : ∀ i : Nat, i < n → -1 ≤ rd x.at_ i ∧ rd x.at_ i ≤ c
  slots : ∀ i : Nat, i < n → 0 ≤ rd x.sl i ∧ rd x.sl i ≤ 3
theorem PGood.later {n : Nat} {c d : Int} {x : PSt} (h : PGood n c x) (hd : c ≤ d) : PGood n d x := ⟨h.len, h.len2, h.left, fun i hi => ⟨(h.up i hi).1, Int.le_trans (h.up i hi).2 hd⟩, h.slots⟩
variable {may : Nat → Int → Bool} {n : Nat} {E : List S51} {U H : List Int}
theorem slot_good {c s : Int} {x : PSt} (h : PGood n c x) (hc : 0 ≤ c) (hs : 0 ≤ s ∧ s ≤ 3) : PGood n c (slotStep may n E U H x (c, s)) := by
  unfold slotStep
  rcases bestUp_range (cand may E x.at_ c s) U H n with h1 | ⟨i, h1, h2, h3⟩
  · simp only [h1]; rw [if_neg (by omega)]; exact h
  · simp only [h2]
    rw [if_pos (by omega), Int.toNat_natCast]
    have hlt : rd x.at_ i < 0 := by
      unfold cand at h3
      simp only [Bool.and_eq_true, decide_eq_true_eq] at h3
      exact h3.2.1
    refine ⟨by simp [h.len], by simp [h.len2], ?_, ?_, ?_⟩
    · have := open_set x.at_ i c (by rw [h.len]; exact h1) hlt hc
      show x.left - 1 = (opens_ (x.at_.set i c) : Int)
      rw [h.left]; omega
    · intro j hj
      show -1 ≤ rd (x.at_.set i c) j ∧ rd (x.at_.set i c) j ≤ c
      by_cases e : j = i
      · subst e; rw [rd_same _ _ _ (by rw [h.len]; exact hj)]; omega
      · rw [rd_other _ _ _ _ e]; exact h.up j hj
    · intro j hj
      show 0 ≤ rd (x.sl.set i s) j ∧ rd (x.sl.set i s) j ≤ 3
      by_cases e : j = i
      · subst e; rw [rd_same _ _ _ (by rw [h.len2]; exact hj)]; exact hs
      · rw [rd_other _ _ _ _ e]; exact h.slots j hj
theorem slot_less (x : PSt) (p : Int × Int) : slotStep may n E U H x p = x ∨ (slotStep may n E U H x p).left < x.left := by
  unfold slotStep
  by_cases h : 0 ≤ bestUp (cand may E x.at_ p.1 p.2) U H n
  · simp only [h, if_true]; right; show x.left - 1 < x.left; omega
  · left; simp only [h, if_false]
theorem slots_less : ∀ (ps : List (Int × Int)) (x : PSt), ps.foldl (slotStep may n E U H) x = x ∨ (ps.foldl (slotStep may n E U H) x).left < x.left
  | [], x => .inl rfl
  | p :: ps, x => by
    rw [List.foldl_cons]
    rcases slot_less (may := may) (n := n) (E := E) (U := U) (H := H) x p with h | h
    · rw [h]; exact slots_less ps x
    · right
      rcases slots_less ps (slotStep may n E U H x p) with h2 | h2
      · rw [h2]; exact h
      · omega
theorem slots_less_at (ps qs : List (Int × Int)) (p : Int × Int) (x : PSt) (i : Nat) (hi : i < n) (hc : cand may E x.at_ p.1 p.2 i = true) : ((ps ++ p :: qs).foldl (slotStep may n E U H) x).left < x.left := by
  rw [List.foldl_append, List.foldl_cons]
  have h3 : ∀ y : PSt, (qs.foldl (slotStep may n E U H) y).left ≤ y.left := fun y => by
    rcases slots_less (may := may) (n := n) (E := E) (U := U) (H := H) qs y with h | h
    · rw [h]; exact Int.le_refl _
    · omega
  rcases slots_less (may := may) (n := n) (E := E) (U := U) (H := H) ps x with h | h
  · rw [h]
    have h1 := h3 (slotStep may n E U H x p)
    have h2 : (slotStep may n E U H x p).left < x.left := by
      unfold slotStep
      have hb := bestUp_some (cand may E x.at_ p.1 p.2) U H n i hi hc
      simp only [hb, if_true]
      show x.left - 1 < x.left; omega
    omega
  · have h1 := h3 (slotStep may n E U H (ps.foldl (slotStep may n E U H) x) p)
    rcases slot_less (may := may) (n := n) (E := E) (U := U) (H := H) (ps.foldl (slotStep may n E U H) x) p with h2 | h2
    · rw [h2] at h1 ⊢; omega
    · omega
theorem cyc_good {c : Int} {x : PSt} (h : PGood n c x) (hc : 0 ≤ c) : PGood n c (cycStep may n E U H x c) := by
  unfold cycStep four4
  simp only [List.foldl_cons, List.foldl_nil]
  exact slot_good (slot_good (slot_good (slot_good h hc (by omega)) hc (by omega)) hc (by omega)) hc (by omega)
structure PFine (may : Nat → Int → Bool) (n : Nat) (E : List S51) : Prop where
  on : ∀ e ∈ E, ∃ i t : Nat, e.f0 = (i : Int) ∧ e.f1 = (t : Int) ∧ i < t ∧ t < n ∧ 0 ≤ e.f2 ∧ e.f2 ≤ 4
  goes : ∀ i : Nat, i < n → ∃ s : Int, 0 ≤ s ∧ s ≤ 3 ∧ may i s = true
theorem four_split (s c : Int) (h0 : 0 ≤ s) (h1 : s ≤ 3) : ∃ ps qs, four4 c = ps ++ (c, s) :: qs := by
  have : s = 0 ∨ s = 1 ∨ s = 2 ∨ s = 3 := by omega
  rcases this with rfl | rfl | rfl | rfl
  · exact ⟨[], [(c, 1), (c, 2), (c, 3)], rfl⟩
  · exact ⟨[(c, 0)], [(c, 2), (c, 3)], rfl⟩
  · exact ⟨[(c, 0), (c, 1)], [(c, 3)], rfl⟩
  · exact ⟨[(c, 0), (c, 1), (c, 2)], [], rfl⟩
theorem cycs (c : Int) (x : PSt) : cycStep may n E U H (cycStep may n E U H (cycStep may n E U H (cycStep may n E U H x c) (c + 1)) (c + 2)) (c + 3) = (four4 c ++ four4 (c + 1) ++ four4 (c + 2) ++ four4 (c + 3)).foldl (slotStep may n E U H) x := by
  simp only [cycStep, List.foldl_append]
theorem four_less (hf : PFine may n E) {c : Int} {x : PSt} (h : PGood n (c - 1) x) (hl : 0 < x.left) :
    (cycStep may n E U H (cycStep may n E U H (cycStep may n E U H (cycStep may n E U H x c) (c + 1)) (c + 2)) (c + 3)).left < x.left := by
  rw [cycs]
  obtain ⟨i, h1, h2, h3⟩ := open_some x.at_ (by have := h.left; omega)
  rw [h.len] at h1
  obtain ⟨s, s0, s1, hm⟩ := hf.goes i h1
  obtain ⟨ps, qs, hp⟩ := four_split s (c + 3) s0 s1
  rw [hp, ← List.append_assoc]
  refine slots_less_at _ qs _ x i h1 ?_
  unfold cand
  rw [hm, decide_eq_true h2, Bool.true_and, Bool.true_and]
  unfold rdy
  rw [List.all_eq_true]
  intro e he
  obtain ⟨a, t, e0, e1, hat, htn, d0, d1⟩ := hf.on e he
  by_cases ht : t = i
  · subst ht
    have ha := h3 a hat
    have hb := (h.up a (by omega)).2
    rw [e0, decide_eq_true ha, decide_eq_true (by show rd x.at_ a + e.f2 ≤ c + 3; omega)]
    simp
  · have : (e.f1 != (i : Int)) = true := by simp; omega
    rw [this]; rfl
theorem run_done (f : Nat) (c : Int) (x : PSt) (h : x.left ≤ 0) : runN may n E U H f c x = x := by
  cases f with
  | zero => rfl
  | succ f => rw [runN, if_neg (by omega)]
theorem run_ends (hf : PFine may n E) : ∀ (m : Nat) (c : Int) (x : PSt), PGood n (c - 1) x → 0 ≤ c → x.left ≤ m → ∀ f, 4 * m ≤ f → (runN may n E U H f c x).left = 0 ∧ PGood n (c - 1 + 4 * m) (runN may n E U H f c x)
  | 0, c, x, h, hc, hl, f, hk => by
    rw [run_done f c x (by omega)]
    exact ⟨by have := h.left; omega, h.later (by omega)⟩
  | m + 1, c, x, h, hc, hl, f, hk => by
    have fin : ∀ (g : Nat) (d : Int) (y : PSt), d ≤ c + 4 → y.left ≤ 0 → PGood n (d - 1) y → (runN may n E U H g d y).left = 0 ∧ PGood n (c - 1 + 4 * ((m + 1 : Nat) : Int)) (runN may n E U H g d y) := by
      intro g d y hd hy hg
      rw [run_done g d y hy]
      exact ⟨by have := hg.left; omega, hg.later (by omega)⟩
    by_cases h0 : 0 < x.left
    · obtain ⟨f, rfl⟩ : ∃ g, f = g + 1 + 1 + 1 + 1 := ⟨f - 4, by omega⟩
      have g1 : PGood n (c + 1 - 1) (cycStep may n E U H x c) := by rw [Int.add_sub_cancel]; exact cyc_good (h.later (by omega)) hc
      have g2 : PGood n (c + 1 + 1 - 1) (cycStep may n E U H (cycStep may n E U H x c) (c + 1)) := by rw [Int.add_sub_cancel]; exact cyc_good (g1.later (by omega)) (by omega)
      have g3 : PGood n (c + 1 + 1 + 1 - 1) (cycStep may n E U H (cycStep may n E U H (cycStep may n E U H x c) (c + 1)) (c + 1 + 1)) := by rw [Int.add_sub_cancel]; exact cyc_good (g2.later (by omega)) (by omega)
      have g4 : PGood n (c + 1 + 1 + 1 + 1 - 1) (cycStep may n E U H (cycStep may n E U H (cycStep may n E U H (cycStep may n E U H x c) (c + 1)) (c + 1 + 1)) (c + 1 + 1 + 1)) := by rw [Int.add_sub_cancel]; exact cyc_good (g3.later (by omega)) (by omega)
      have hless := four_less (U := U) (H := H) hf h h0
      rw [show c + 3 = c + 1 + 1 + 1 by omega, show c + 2 = c + 1 + 1 by omega] at hless
      rw [runN, if_pos h0, runN]
      split
      · rw [runN]
        split
        · rw [runN]
          split
          · have := run_ends hf m (c + 1 + 1 + 1 + 1) _ g4 (by omega) (by omega) f (by omega)
            exact ⟨this.1, this.2.later (by omega)⟩
          · rename_i h5
            have := fin f (c + 1 + 1 + 1) _ (by omega) (by omega) g3
            rw [run_done f (c + 1 + 1 + 1) _ (by omega)] at this
            exact this
        · rename_i h5
          have := fin f (c + 1 + 1) _ (by omega) (by omega) g2
          rw [run_done f (c + 1 + 1) _ (by omega)] at this
          exact this
      · rename_i h5
        have := fin f (c + 1) _ (by omega) (by omega) g1
        rw [run_done f (c + 1) _ (by omega)] at this
        exact this
    · exact fin f c x (by omega) (by omega) h
end
section
open Go.RowKit Go.Proofs.YtibfkkjkahpobaaW.PrintWords Go.Proofs.YtibfkkjkahpobaaW.PrintLast
section
variable {P : Program} {ops : Array Oper} {Q : Exit → Act → World → Prop} {md : Region.Mode} {S : World → Prop} {ds : List Nat}
def SqOn (P : Program) (ops : Array Oper) (S : World → Prop) (K : Act → Prop) : List (Nat × Option Tmp × Bool) → Act → Prop
  | [], a => K a
  | (i, N, r) :: is, a => ∃ oi v, ops[i]? = some oi ∧ oi.dst = N ∧ (if r = true then YieldsIf P ops S oi v a else Yields P ops oi v a) ∧ SqOn P ops S K is (a.put N v)
theorem SqOn.nil {K : Act → Prop} {a : Act} (h : K a) : SqOn P ops S K [] a := h
theorem SqOn.pure {K : Act → Prop} {i : Nat} {N : Option Tmp} {is : List (Nat × Option Tmp × Bool)} {a a' : Act} {oi : Oper} {v : Value} (hi : ops[i]? = some oi) (hN : oi.dst = N) (hy : Yields P ops oi v a) (ha : a.put N v = a') (h : SqOn P ops S K is a') : SqOn P ops S K ((i, N, false) :: is) a := by
  subst ha
  exact ⟨oi, v, hi, hN, hy, h⟩
theorem SqOn.take {K : Act → Prop} {i : Nat} {N : Option Tmp} {is : List (Nat × Option Tmp × Bool)} {a a' : Act} {oi : Oper} {v : Value} (hi : ops[i]? = some oi) (hN : oi.dst = N) (hy : YieldsIf P ops S oi v a) (ha : a.put N v = a') (h : SqOn P ops S K is a') : SqOn P ops S K ((i, N, true) :: is) a := by
  subst ha
  exact ⟨oi, v, hi, hN, hy, h⟩
def sqB (md : Region.Mode) (ops : Array Oper) (ds : List Nat) : List (Nat × Option Tmp × Bool) → Array Bool → Array Bool → Bool
  | [], l, l' => l == l'
  | (i, _, r) :: is, l, l' => (if r = true then takeB md ops ds l (l.setIfInBounds i true) i else anyB md ops l (l.setIfInBounds i true) i) && sqB md ops ds is (l.setIfInBounds i true) l'
theorem sq_ {k n : Nat} {l : Array Bool} {a : Act} {w : World} (is : List (Nat × Option Tmp × Bool)) (l' : Array Bool) (hn : n = k + is.length) (hc : sqB md ops ds is l l' = true)
    (hQ0 : ∀ t v c a w, Q (.panic c) (a.put (some t) v) w → Q (.panic c) a w) (hS : S w) (h : SqOn P ops S (fun a => wpAnyLast P md ops Q S ds k l' a w) is a) : wpAnyLast P md ops Q S ds n l a w := by
  have hQ : ∀ d v c a w, Q (.panic c) (a.put d v) w → Q (.panic c) a w := fun d v => by
    cases d with
    | none => exact fun _ _ _ h => h
    | some t => exact hQ0 t v
  subst hn
  induction is generalizing l a with
  | nil =>
    obtain rfl : l = l' := by simpa [sqB] using hc
    exact h
  | cons i is ih =>
    obtain ⟨i, N, r⟩ := i
    obtain ⟨oi, v, ho, hN, hy, h⟩ := h
    subst hN
    simp only [sqB, Bool.and_eq_true] at hc
    cases r with
    | false =>
      rw [if_neg (by decide)] at hy
      refine pure_ (fuel := k + is.length) (v := v) (a' := a.put oi.dst v) (l.setIfInBounds i true) ho rfl (by simpa using hc.1) (fun c a w => hQ _ _ c a w) hy rfl ?_
      exact ih hc.2 h
    | true =>
      rw [if_pos rfl] at hy
      refine take_ (fuel := k + is.length) (v := v) (a' := a.put oi.dst v) (l.setIfInBounds i true) ho rfl (by simpa using hc.1) (fun c a w => hQ _ _ c a w) hy hS rfl ?_
      exact ih hc.2 h
def sqT (T : Bool × List (List Nat × List Nat)) (B ds : List Nat) : List (Nat × Option Tmp × Bool) → List Bool → List Bool → Bool
  | [], l, l' => l == l'
  | (i, _, r) :: is, l, l' => (if r = true then takeW T B ds l (l.set i true) i else anyT T l (l.set i true) i) && sqT T B ds is (l.set i true) l'
theorem sq_of {T : Bool × List (List Nat × List Nat)} {B : List Nat} (hT : rtab md ops = T) (hB : waitsOk T.2 B = true) : ∀ {is : List (Nat × Option Tmp × Bool)} {l l' : Array Bool}, sqT T B ds is l.toList l'.toList = true → sqB md ops ds is l l' = true
  | [], l, l', h => by
    simp only [sqT, beq_iff_eq] at h
    simp only [sqB, beq_iff_eq]
    exact Array.toList_inj.1 h
  | (i, _, r) :: is, l, l', h => by
    simp only [sqT, Bool.and_eq_true] at h
    simp only [sqB, Bool.and_eq_true]
    have e : (l.setIfInBounds i true).toList = l.toList.set i true := by simp
    refine ⟨?_, sq_of hT hB (by rw [e]; exact h.2)⟩
    cases r with
    | false => exact any_of hT (by rw [e]; simpa using h.1)
    | true => exact take_ofW hT hB (by rw [e]; simpa using h.1)
end
end
end Go.Proofs.Ytibfkkjkahpobaa.PDag
