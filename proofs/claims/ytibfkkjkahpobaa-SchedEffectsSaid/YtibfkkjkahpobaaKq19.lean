import Derived.Test.YtibfkkjkahpobaaKq15
import Derived.Test.YtibfkkjkahpobaaKq16
import Derived.Test.YtibfkkjkahpobaaKq18
set_option linter.unusedVariables false
set_option linter.unusedSimpArgs false
open Go.RowKit Go.Proofs.YtibfkkjkahpobaaW.PrintWords Go.Proofs.YtibfkkjkahpobaaW.PrintLast Go.Proofs.YtibfkkjkahpobaaW.PrintMore
section
namespace Go.Proofs.Ytibfkkjkahpobaa.PDag
attribute [local go_sem] max2_int min2_int max_two min_two max_three min_three max_four min_four   -- for this text's walks alone
mutual
def isa_May.j0 : Nat → Int → Int → Bool → Option (Bool)
  | 0, _, _, _ => none
  | k + 1, x0, x1, x15 => if x15 = true then (some false) else (if x0 = 0 then (some true) else (if x0 = 14 then (isa_May.j1 k x0 x1 x0 (x0 == 14)) else (if x0 = 15 then (isa_May.j1 k x0 x1 x0 (x0 == 15)) else (if x0 = 16 then (isa_May.j1 k x0 x1 x0 (x0 == 16)) else (if x0 = 17 then (isa_May.j1 k x0 x1 x0 (x0 == 17)) else (isa_May.j1 k x0 x1 x0 (x0 == 20)))))))
def isa_May.j1 : Nat → Int → Int → Int → Bool → Option (Bool)
  | 0, _, _, _, _ => none
  | k + 1, x0, x1, x16, x19 => if x19 = true then (some (x1 == 3)) else (if x16 = 18 then (isa_May.j2 k x0 x1 x16 (x16 == 18)) else (if x16 = 19 then (isa_May.j2 k x0 x1 x16 (x16 == 19)) else (isa_May.j2 k x0 x1 x16 (x16 == 21))))
def isa_May.j2 : Nat → Int → Int → Int → Bool → Option (Bool)
  | 0, _, _, _, _ => none
  | k + 1, x0, x1, x16, x27 => if x27 = true then (some (x1 == 1)) else (if x16 = 24 then (isa_May.j3 k x0 x1 (x16 == 24)) else (if x16 = 25 then (isa_May.j3 k x0 x1 (x16 == 25)) else (if x16 = 26 then (isa_May.j3 k x0 x1 (x16 == 26)) else (isa_May.j3 k x0 x1 (x16 == 27)))))
def isa_May.j3 : Nat → Int → Int → Bool → Option (Bool)
  | 0, _, _, _ => none
  | k + 1, x0, x1, x33 => if x33 = true then (some (x1 == 2)) else (if x1 = 0 then (some true) else (if x1 = 1 then ((isa_Ends.f x0).bind fun t577 => (some (!t577))) else (some false)))
end
def isa_May.f (k : Nat) (a0 : Int) (a1 : Int) : Option (Bool) := (isa_Is.f a0).bind fun t576 => (if t576 = true then (if a1 < 0 then (isa_May.j0 k a0 a1 true) else (isa_May.j0 k a0 a1 (decide (a1 > 3)))) else (isa_May.j0 k a0 a1 true))
theorem isa_May.mono_l : ∀ k, (∀ y0 y1 y2, LeO (isa_May.j0 k y0 y1 y2) (isa_May.j0 (k + 1) y0 y1 y2)) ∧ (∀ y0 y1 y2 y3, LeO (isa_May.j1 k y0 y1 y2 y3) (isa_May.j1 (k + 1) y0 y1 y2 y3)) ∧ (∀ y0 y1 y2 y3, LeO (isa_May.j2 k y0 y1 y2 y3) (isa_May.j2 (k + 1) y0 y1 y2 y3)) ∧ (∀ y0 y1 y2, LeO (isa_May.j3 k y0 y1 y2) (isa_May.j3 (k + 1) y0 y1 y2))
  | 0 => ⟨fun _ _ _ r h => by simp [isa_May.j0] at h, fun _ _ _ _ r h => by simp [isa_May.j1] at h, fun _ _ _ _ r h => by simp [isa_May.j2] at h, fun _ _ _ r h => by simp [isa_May.j3] at h⟩
  | k + 1 => by
    obtain ⟨ih0, ih1, ih2, ih3⟩ := isa_May.mono_l k
    refine ⟨?_, ?_, ?_, ?_⟩
    · intro y0 y1 y2
      unfold isa_May.j0
      repeat' first
      | (with_reducible exact ih0 _ _ _)
      | (with_reducible exact ih1 _ _ _ _)
      | (with_reducible exact ih2 _ _ _ _)
      | (with_reducible exact ih3 _ _ _)
      | (with_reducible exact LeO.refl _)
      | (with_reducible exact LeO.none _)
      | (with_reducible refine LeO.ite ?_ ?_)
      | (with_reducible refine LeO.bind ?_ (fun _ => ?_))
      | exact LeO.none _
      | refine LeO.ite ?_ ?_
      | refine LeO.bind ?_ (fun _ => ?_)
    · intro y0 y1 y2 y3
      unfold isa_May.j1
      repeat' first
      | (with_reducible exact ih0 _ _ _)
      | (with_reducible exact ih1 _ _ _ _)
      | (with_reducible exact ih2 _ _ _ _)
      | (with_reducible exact ih3 _ _ _)
      | (with_reducible exact LeO.refl _)
      | (with_reducible exact LeO.none _)
      | (with_reducible refine LeO.ite ?_ ?_)
      | (with_reducible refine LeO.bind ?_ (fun _ => ?_))
      | exact LeO.none _
      | refine LeO.ite ?_ ?_
      | refine LeO.bind ?_ (fun _ => ?_)
    · intro y0 y1 y2 y3
      unfold isa_May.j2
      repeat' first
      | (with_reducible exact ih0 _ _ _)
      | (with_reducible exact ih1 _ _ _ _)
      | (with_reducible exact ih2 _ _ _ _)
      | (with_reducible exact ih3 _ _ _)
      | (with_reducible exact LeO.refl _)
      | (with_reducible exact LeO.none _)
      | (with_reducible refine LeO.ite ?_ ?_)
      | (with_reducible refine LeO.bind ?_ (fun _ => ?_))
      | exact LeO.none _
      | refine LeO.ite ?_ ?_
      | refine LeO.bind ?_ (fun _ => ?_)
    · intro y0 y1 y2
      unfold isa_May.j3
      repeat' first
      | (with_reducible exact ih0 _ _ _)
      | (with_reducible exact ih1 _ _ _ _)
      | (with_reducible exact ih2 _ _ _ _)
      | (with_reducible exact ih3 _ _ _)
      | (with_reducible exact LeO.refl _)
      | (with_reducible exact LeO.none _)
      | (with_reducible refine LeO.ite ?_ ?_)
      | (with_reducible refine LeO.bind ?_ (fun _ => ?_))
      | exact LeO.none _
      | refine LeO.ite ?_ ?_
      | refine LeO.bind ?_ (fun _ => ?_)
theorem isa_May.mono : ∀ a0 a1 k, LeO (isa_May.f k a0 a1) (isa_May.f (k + 1) a0 a1) := by
 intro a0 a1 k
 obtain ⟨ih0, ih1, ih2, ih3⟩ := isa_May.mono_l k
 unfold isa_May.f
 repeat' first
  | (with_reducible exact ih0 _ _ _)
  | (with_reducible exact ih1 _ _ _ _)
  | (with_reducible exact ih2 _ _ _ _)
  | (with_reducible exact ih3 _ _ _)
  | (with_reducible exact LeO.refl _)
  | (with_reducible exact LeO.none _)
  | (with_reducible refine LeO.ite ?_ ?_)
  | (with_reducible refine LeO.bind ?_ (fun _ => ?_))
  | exact LeO.none _
  | refine LeO.ite ?_ ?_
  | refine LeO.bind ?_ (fun _ => ?_)
set_option maxHeartbeats 8000000 in
set_option maxRecDepth 100000 in
theorem isa_May.calls (k : Nat) (a0 : Int) (a1 : Int) (r : Bool) (w : World) (h : isa_May.f k a0 a1 = some r) :
    Calls Try.prog 87 #[.int .i64 a0, .int .i64 a1] w fun e w' => e = .returned (.bool r) ∧ Dr_ w w' := by
 have H : ((isa_Is.f a0).bind fun t576 => (if t576 = true then (if a1 < 0 then (isa_May.j0 k a0 a1 true) else (isa_May.j0 k a0 a1 (decide (a1 > 3)))) else (isa_May.j0 k a0 a1 true))) = some r := h
 clear h
 have HC3 := As_.mk H
 clear H
 go_enter Try.func87, Try.ntmps87
 go_upto_region 1 with (fail)
 go_cut [15] (fun v15 wc => ∃ (kq : Nat) (x15_2 : Bool), v15 = .bool x15_2 ∧ As_ (isa_May.j0 kq a0 a1 x15_2 = some r) ∧ As_ (kq ≤ k) ∧ Dr_ w wc)
 case first =>
  have H := HC3.out
  clear HC3
  replace H := oB_ H
  obtain ⟨t576, A40, H⟩ := H
  have A4 := As_.mk A40
  clear A40
  by_cases c5 : t576 = true
  ·subst c5
   rw [if_pos rfl] at H
   by_cases c6 : a1 < 0
   ·rw [if_pos c6] at H
    have c6b0 := decide_eq_true c6
    clear c6
    (first | rw [c6b0] | (simp only [i64_w, i32_w]; rw [c6b0]) | skip)
    have H' := As_.mk H
    clear H
    go_wp2_with (first | ((with_reducible refine gC_ (f := 96) rfl ?_); refine gL_ (some 6) Try.func96 #[.int .i64 a0] rfl ?_; (with_reducible refine (isa_Is.calls a0 true _ A4.out).mono ?_); rintro e w' ⟨rfl, ⟨nd, rfl⟩⟩; refine ⟨_, rfl, ?_⟩))
    go_meet
    case rel => exact ⟨_, (true), eQ_, H', ⟨by first | omega | exact Nat.le_refl _⟩, by repeat (first | exact Dr_.refl _ | apply Dr_.step)⟩
   rw [if_neg c6] at H
   have c6b0 := decide_eq_false c6
   clear c6
   (first | rw [c6b0] | (simp only [i64_w, i32_w]; rw [c6b0]) | skip)
   have H' := As_.mk H
   clear H
   go_wp2_with (first | ((with_reducible refine gC_ (f := 96) rfl ?_); refine gL_ (some 6) Try.func96 #[.int .i64 a0] rfl ?_; (with_reducible refine (isa_Is.calls a0 true _ A4.out).mono ?_); rintro e w' ⟨rfl, ⟨nd, rfl⟩⟩; refine ⟨_, rfl, ?_⟩))
   go_meet
   case rel => exact ⟨_, (decide (a1 > 3)), eQ_, H', ⟨by first | omega | exact Nat.le_refl _⟩, by repeat (first | exact Dr_.refl _ | apply Dr_.step)⟩
  replace c5 := eF_ c5
  subst c5
  rw [if_neg Bool.false_ne_true] at H
  have H' := As_.mk H
  clear H
  go_wp2_with (first | ((with_reducible refine gC_ (f := 96) rfl ?_); refine gL_ (some 6) Try.func96 #[.int .i64 a0] rfl ?_; (with_reducible refine (isa_Is.calls a0 false _ A4.out).mono ?_); rintro e w' ⟨rfl, ⟨nd, rfl⟩⟩; refine ⟨_, rfl, ?_⟩))
  go_meet
  case rel => exact ⟨_, (true), eQ_, H', ⟨by first | omega | exact Nat.le_refl _⟩, by repeat (first | exact Dr_.refl _ | apply Dr_.step)⟩
 case rest =>
  clear HC3
  obtain ⟨kq, x15_2, rfl, HA, HJ2, ⟨mc2, rfl⟩⟩ := hcut
  cases kq with
  | zero => exact absurd HA.out (by simp [isa_May.j0])
  | succ kj2 =>
   have H := HA.out
   clear HA
   simp only [isa_May.j0] at H
   by_cases c7 : x15_2 = true
   ·subst c7
    rw [if_pos rfl] at H
    obtain rfl := oI_ H
    go_wp2
    go_ret
    exact ⟨by first | rfl | (simp; done) | (simp [*]; done) | (simp [wrap64]; done) | (congr 1; rw [Bool.eq_iff_iff]; simp; done), by repeat (first | exact Dr_.refl _ | apply Dr_.step)⟩
   replace c7 := eF_ c7
   subst c7
   rw [if_neg Bool.false_ne_true] at H
   by_cases c8 : a0 = 0
   ·rw [if_pos c8] at H
    have c8b0 := beq_iff_eq.mpr c8
    have c8b1 := bF_ c8
    clear c8
    obtain rfl := oI_ H
    go_wp2
    go_ret
    exact ⟨by first | rfl | (simp; done) | (simp [*]; done) | (simp [wrap64]; done) | (congr 1; rw [Bool.eq_iff_iff]; simp; done), by repeat (first | exact Dr_.refl _ | apply Dr_.step)⟩
   rw [if_neg c8] at H
   have c8b0 := bE_ c8
   have c8b1 := bne_iff_ne.mpr c8
   have HC9 := As_.mk H
   clear H
   go_upto_if 19 with (fail)
   go_cut [19] (fun v19 wc => ∃ (kq : Nat) (x19_8 : Bool), v19 = .bool x19_8 ∧ As_ (isa_May.j1 kq a0 a1 a0 x19_8 = some r) ∧ As_ (kq ≤ kj2) ∧ Dr_ w wc)
   case first =>
    have H := HC9.out
    clear HC9
    by_cases c10 : a0 = 14
    ·rw [if_pos c10] at H
     have c10b0 := beq_iff_eq.mpr c10
     have c10b1 := bF_ c10
     clear c10
     (first | rw [c10b0] | (simp only [i64_w, i32_w]; rw [c10b0]) | skip)
     have H' := As_.mk H
     clear H
     go_wp2
     go_meet
     case rel => exact ⟨_, ((a0 == 14)), eQ_, H', ⟨by have := HJ2.out; first | omega | exact Nat.le_refl _⟩, by repeat (first | exact Dr_.refl _ | apply Dr_.step)⟩
    rw [if_neg c10] at H
    have c10b0 := bE_ c10
    have c10b1 := bne_iff_ne.mpr c10
    (first | rw [c10b0] | (simp only [i64_w, i32_w]; rw [c10b0]) | skip)
    by_cases c11 : a0 = 15
    ·rw [if_pos c11] at H
     have c11b0 := beq_iff_eq.mpr c11
     have c11b1 := bF_ c11
     clear c11
     have H' := As_.mk H
     clear H
     go_wp2
     go_meet
     case rel => exact ⟨_, ((a0 == 15)), eQ_, H', ⟨by have := HJ2.out; first | omega | exact Nat.le_refl _⟩, by repeat (first | exact Dr_.refl _ | apply Dr_.step)⟩
    rw [if_neg c11] at H
    have c11b0 := bE_ c11
    have c11b1 := bne_iff_ne.mpr c11
    by_cases c12 : a0 = 16
    ·rw [if_pos c12] at H
     have c12b0 := beq_iff_eq.mpr c12
     have c12b1 := bF_ c12
     clear c12
     have H' := As_.mk H
     clear H
     go_wp2
     go_meet
     case rel => exact ⟨_, ((a0 == 16)), eQ_, H', ⟨by have := HJ2.out; first | omega | exact Nat.le_refl _⟩, by repeat (first | exact Dr_.refl _ | apply Dr_.step)⟩
    rw [if_neg c12] at H
    have c12b0 := bE_ c12
    have c12b1 := bne_iff_ne.mpr c12
    by_cases c13 : a0 = 17
    ·rw [if_pos c13] at H
     have c13b0 := beq_iff_eq.mpr c13
     have c13b1 := bF_ c13
     clear c13
     have H' := As_.mk H
     clear H
     go_wp2
     go_meet
     case rel => exact ⟨_, ((a0 == 17)), eQ_, H', ⟨by have := HJ2.out; first | omega | exact Nat.le_refl _⟩, by repeat (first | exact Dr_.refl _ | apply Dr_.step)⟩
    rw [if_neg c13] at H
    have c13b0 := bE_ c13
    have c13b1 := bne_iff_ne.mpr c13
    have H' := As_.mk H
    clear H
    go_wp2
    go_meet
    case rel => exact ⟨_, ((a0 == 20)), eQ_, H', ⟨by have := HJ2.out; first | omega | exact Nat.le_refl _⟩, by repeat (first | exact Dr_.refl _ | apply Dr_.step)⟩
   case rest =>
    clear HC9
    obtain ⟨kq, x19_8, rfl, HA, HJ8, ⟨mc8, rfl⟩⟩ := hcut
    cases kq with
    | zero => exact absurd HA.out (by simp [isa_May.j1])
    | succ kj8 =>
     have H := HA.out
     clear HA
     simp only [isa_May.j1] at H
     by_cases c14 : x19_8 = true
     ·subst c14
      rw [if_pos rfl] at H
      obtain rfl := oI_ H
      go_wp2
      go_ret
      exact ⟨by first | rfl | (simp; done) | (simp [*]; done) | (simp [wrap64]; done) | (congr 1; rw [Bool.eq_iff_iff]; simp; done), by repeat (first | exact Dr_.refl _ | apply Dr_.step)⟩
     replace c14 := eF_ c14
     subst c14
     rw [if_neg Bool.false_ne_true] at H
     have HC15 := As_.mk H
     clear H
     go_upto_if 27 with (fail)
     go_cut [27] (fun v27 wc => ∃ (kq : Nat) (x27_14 : Bool), v27 = .bool x27_14 ∧ As_ (isa_May.j2 kq a0 a1 a0 x27_14 = some r) ∧ As_ (kq ≤ kj8) ∧ Dr_ w wc)
     case first =>
      have H := HC15.out
      clear HC15
      by_cases c16 : a0 = 18
      ·rw [if_pos c16] at H
       have c16b0 := beq_iff_eq.mpr c16
       have c16b1 := bF_ c16
       clear c16
       (first | rw [c16b0] | (simp only [i64_w, i32_w]; rw [c16b0]) | skip)
       have H' := As_.mk H
       clear H
       go_wp2
       go_meet
       case rel => exact ⟨_, ((a0 == 18)), eQ_, H', ⟨by have := HJ2.out; have := HJ8.out; first | omega | exact Nat.le_refl _⟩, by repeat (first | exact Dr_.refl _ | apply Dr_.step)⟩
      rw [if_neg c16] at H
      have c16b0 := bE_ c16
      have c16b1 := bne_iff_ne.mpr c16
      (first | rw [c16b0] | (simp only [i64_w, i32_w]; rw [c16b0]) | skip)
      by_cases c17 : a0 = 19
      ·rw [if_pos c17] at H
       have c17b0 := beq_iff_eq.mpr c17
       have c17b1 := bF_ c17
       clear c17
       have H' := As_.mk H
       clear H
       go_wp2
       go_meet
       case rel => exact ⟨_, ((a0 == 19)), eQ_, H', ⟨by have := HJ2.out; have := HJ8.out; first | omega | exact Nat.le_refl _⟩, by repeat (first | exact Dr_.refl _ | apply Dr_.step)⟩
      rw [if_neg c17] at H
      have c17b0 := bE_ c17
      have c17b1 := bne_iff_ne.mpr c17
      have H' := As_.mk H
      clear H
      go_wp2
      go_meet
      case rel => exact ⟨_, ((a0 == 21)), eQ_, H', ⟨by have := HJ2.out; have := HJ8.out; first | omega | exact Nat.le_refl _⟩, by repeat (first | exact Dr_.refl _ | apply Dr_.step)⟩
     case rest =>
      clear HC15
      obtain ⟨kq, x27_14, rfl, HA, HJ14, ⟨mc14, rfl⟩⟩ := hcut
      cases kq with
      | zero => exact absurd HA.out (by simp [isa_May.j2])
      | succ kj14 =>
       have H := HA.out
       clear HA
       simp only [isa_May.j2] at H
       by_cases c18 : x27_14 = true
       ·subst c18
        rw [if_pos rfl] at H
        obtain rfl := oI_ H
        go_wp2
        go_ret
        exact ⟨by first | rfl | (simp; done) | (simp [*]; done) | (simp [wrap64]; done) | (congr 1; rw [Bool.eq_iff_iff]; simp; done), by repeat (first | exact Dr_.refl _ | apply Dr_.step)⟩
       replace c18 := eF_ c18
       subst c18
       rw [if_neg Bool.false_ne_true] at H
       have HC19 := As_.mk H
       clear H
       go_upto_if 33 with (fail)
       go_cut [33] (fun v33 wc => ∃ (kq : Nat) (x33_18 : Bool), v33 = .bool x33_18 ∧ As_ (isa_May.j3 kq a0 a1 x33_18 = some r) ∧ As_ (kq ≤ kj14) ∧ Dr_ w wc)
       case first =>
        have H := HC19.out
        clear HC19
        by_cases c20 : a0 = 24
        ·rw [if_pos c20] at H
         have c20b0 := beq_iff_eq.mpr c20
         have c20b1 := bF_ c20
         clear c20
         (first | rw [c20b0] | (simp only [i64_w, i32_w]; rw [c20b0]) | skip)
         have H' := As_.mk H
         clear H
         go_wp2
         go_meet
         case rel => exact ⟨_, ((a0 == 24)), eQ_, H', ⟨by have := HJ2.out; have := HJ8.out; have := HJ14.out; first | omega | exact Nat.le_refl _⟩, by repeat (first | exact Dr_.refl _ | apply Dr_.step)⟩
        rw [if_neg c20] at H
        have c20b0 := bE_ c20
        have c20b1 := bne_iff_ne.mpr c20
        (first | rw [c20b0] | (simp only [i64_w, i32_w]; rw [c20b0]) | skip)
        by_cases c21 : a0 = 25
        ·rw [if_pos c21] at H
         have c21b0 := beq_iff_eq.mpr c21
         have c21b1 := bF_ c21
         clear c21
         have H' := As_.mk H
         clear H
         go_wp2
         go_meet
         case rel => exact ⟨_, ((a0 == 25)), eQ_, H', ⟨by have := HJ2.out; have := HJ8.out; have := HJ14.out; first | omega | exact Nat.le_refl _⟩, by repeat (first | exact Dr_.refl _ | apply Dr_.step)⟩
        rw [if_neg c21] at H
        have c21b0 := bE_ c21
        have c21b1 := bne_iff_ne.mpr c21
        by_cases c22 : a0 = 26
        ·rw [if_pos c22] at H
         have c22b0 := beq_iff_eq.mpr c22
         have c22b1 := bF_ c22
         clear c22
         have H' := As_.mk H
         clear H
         go_wp2
         go_meet
         case rel => exact ⟨_, ((a0 == 26)), eQ_, H', ⟨by have := HJ2.out; have := HJ8.out; have := HJ14.out; first | omega | exact Nat.le_refl _⟩, by repeat (first | exact Dr_.refl _ | apply Dr_.step)⟩
        rw [if_neg c22] at H
        have c22b0 := bE_ c22
        have c22b1 := bne_iff_ne.mpr c22
        have H' := As_.mk H
        clear H
        go_wp2
        go_meet
        case rel => exact ⟨_, ((a0 == 27)), eQ_, H', ⟨by have := HJ2.out; have := HJ8.out; have := HJ14.out; first | omega | exact Nat.le_refl _⟩, by repeat (first | exact Dr_.refl _ | apply Dr_.step)⟩
       case rest =>
        clear HC19
        obtain ⟨kq, x33_18, rfl, HA, HJ18, ⟨mc18, rfl⟩⟩ := hcut
        cases kq with
        | zero => exact absurd HA.out (by simp [isa_May.j3])
        | succ kj18 =>
         have H := HA.out
         clear HA
         simp only [isa_May.j3] at H
         by_cases c23 : x33_18 = true
         ·subst c23
          rw [if_pos rfl] at H
          obtain rfl := oI_ H
          go_wp2
          go_ret
          exact ⟨by first | rfl | (simp; done) | (simp [*]; done) | (simp [wrap64]; done) | (congr 1; rw [Bool.eq_iff_iff]; simp; done), by repeat (first | exact Dr_.refl _ | apply Dr_.step)⟩
         replace c23 := eF_ c23
         subst c23
         rw [if_neg Bool.false_ne_true] at H
         by_cases c24 : a1 = 0
         ·rw [if_pos c24] at H
          have c24b0 := beq_iff_eq.mpr c24
          have c24b1 := bF_ c24
          clear c24
          obtain rfl := oI_ H
          go_wp2
          go_ret
          exact ⟨by first | rfl | (simp; done) | (simp [*]; done) | (simp [wrap64]; done) | (congr 1; rw [Bool.eq_iff_iff]; simp; done), by repeat (first | exact Dr_.refl _ | apply Dr_.step)⟩
         rw [if_neg c24] at H
         have c24b0 := bE_ c24
         have c24b1 := bne_iff_ne.mpr c24
         by_cases c25 : a1 = 1
         ·rw [if_pos c25] at H
          have c25b0 := beq_iff_eq.mpr c25
          have c25b1 := bF_ c25
          clear c25
          replace H := oB_ H
          obtain ⟨t577, A260, H⟩ := H
          have A26 := As_.mk A260
          clear A260
          obtain rfl := oI_ H
          go_wp2_with (first | (go_at_call 64; (with_reducible refine (isa_Ends.calls a0 t577 _ A26.out).mono ?_); rintro e w' ⟨rfl, ⟨nd, rfl⟩⟩))
          go_ret
          exact ⟨by first | rfl | (simp; done) | (simp [*]; done) | (simp [wrap64]; done) | (congr 1; rw [Bool.eq_iff_iff]; simp; done), by repeat (first | exact Dr_.refl _ | apply Dr_.step)⟩
         rw [if_neg c25] at H
         have c25b0 := bE_ c25
         have c25b1 := bne_iff_ne.mpr c25
         obtain rfl := oI_ H
         go_wp2
         go_ret
         exact ⟨by first | rfl | (simp; done) | (simp [*]; done) | (simp [wrap64]; done) | (congr 1; rw [Bool.eq_iff_iff]; simp; done), by repeat (first | exact Dr_.refl _ | apply Dr_.step)⟩
def w15_num.f (a0 : Int) : Option (Int) := some a0
set_option maxHeartbeats 8000000 in
set_option maxRecDepth 100000 in
theorem w15_num.calls (a0 : Int) (r : Int) (w : World) (h : w15_num.f a0 = some r) :
    Calls Try.prog 48 #[.int .i64 a0] w fun e w' => e = .returned (.int .i64 r) ∧ Dr_ w w' := by
 have H : (some a0) = some r := h
 clear h
 obtain rfl := oI_ H
 go_enter Try.func48, Try.ntmps48
 go_wp2
 go_ret
 exact ⟨by first | rfl | (simp; done) | (simp [*]; done) | (simp [wrap64]; done) | (congr 1; rw [Bool.eq_iff_iff]; simp; done), by repeat (first | exact Dr_.refl _ | apply Dr_.step)⟩
def IsS102 (w0 W : World) (g : Nat) (f0 : List (S24)) (f1 : List (List (S51))) (f2 : List Int) (f3 : List Int) (f4 : List Int) (f5 : List Int) (f6 : Int) : Prop := ∃ A0 c0, ∃ A1 c1, ∃ A2 c2, ∃ A3 c3, ∃ A4 c4, ∃ A5 c5, W.heap[g]? = some (.cells #[.slice A0 f0.length c0, .slice A1 f1.length c1, .slice A2 f2.length c2, .slice A3 f3.length c3, .slice A4 f4.length c4, .slice A5 f5.length c5, .int .i64 f6] 102 (0, 0)) ∧ w0.heap.size ≤ g ∧ Kd.C k24 w0 A0 f0.length f0 ∧ Kd.C (Kd.slice 51 k51) w0 A1 f1.length f1 ∧ Kd.C (Kd.int .i64) w0 A2 f2.length f2 ∧ Kd.C (Kd.int .i64) w0 A3 f3.length f3 ∧ Kd.C (Kd.int .i64) w0 A4 f4.length f4 ∧ Kd.C (Kd.int .i64) w0 A5 f5.length f5
theorem IsS102.grown {w0 W : World} {g : Nat} {f0 : List (S24)} {f1 : List (List (S51))} {f2 : List Int} {f3 : List Int} {f4 : List Int} {f5 : List Int} {f6 : Int} {W1 : World} {row : Option Nat} (h : IsS102 w0 W g f0 f1 f2 f3 f4 f5 f6) (hw : W.grownBy W1 row) (hne : some g ≠ row) : IsS102 w0 W1 g f0 f1 f2 f3 f4 f5 f6 := by
 obtain ⟨A0, c0, A1, c1, A2, c2, A3, c3, A4, c4, A5, c5, hb, hg, hr0, hr1, hr2, hr3, hr4, hr5⟩ := h
 exact ⟨A0, c0, A1, c1, A2, c2, A3, c3, A4, c4, A5, c5, blk_grown hb hw hne, hg, hr0, hr1, hr2, hr3, hr4, hr5⟩
theorem IsS102.kept {w0 W : World} {g : Nat} {f0 : List (S24)} {f1 : List (List (S51))} {f2 : List Int} {f3 : List Int} {f4 : List Int} {f5 : List Int} {f6 : Int} {W1 : World} {S : Nat → Prop} (h : IsS102 w0 W g f0 f1 f2 f3 f4 f5 f6) (hk : Kept W W1 S) (hne : ¬ S g) : IsS102 w0 W1 g f0 f1 f2 f3 f4 f5 f6 := by
 obtain ⟨A0, c0, A1, c1, A2, c2, A3, c3, A4, c4, A5, c5, hb, hg, hr0, hr1, hr2, hr3, hr4, hr5⟩ := h
 exact ⟨A0, c0, A1, c1, A2, c2, A3, c3, A4, c4, A5, c5, blk_kept hb hk hne, hg, hr0, hr1, hr2, hr3, hr4, hr5⟩
theorem IsS102.below {w0 W : World} {g : Nat} {f0 : List (S24)} {f1 : List (List (S51))} {f2 : List Int} {f3 : List Int} {f4 : List Int} {f5 : List Int} {f6 : Int} {W1 : World} (h : IsS102 w0 W g f0 f1 f2 f3 f4 f5 f6) (hw : Below W.heap.size W W1) : IsS102 w0 W1 g f0 f1 f2 f3 f4 f5 f6 := h.grown (grown_of_below hw none) (by simp)
theorem IsS102.alloc {w0 W : World} {g : Nat} {f0 : List (S24)} {f1 : List (List (S51))} {f2 : List Int} {f3 : List Int} {f4 : List Int} {f5 : List Int} {f6 : Int} (h : IsS102 w0 W g f0 f1 f2 f3 f4 f5 f6) (o : Obj) : IsS102 w0 (W.alloc o) g f0 f1 f2 f3 f4 f5 f6 := h.below (bA_ (Below.refl _ _) o)
theorem IsS102.drewN {w0 W : World} {g : Nat} {f0 : List (S24)} {f1 : List (List (S51))} {f2 : List Int} {f3 : List Int} {f4 : List Int} {f5 : List Int} {f6 : Int} (h : IsS102 w0 W g f0 f1 f2 f3 f4 f5 f6) (m : Nat) : IsS102 w0 (W.drewN m) g f0 f1 f2 f3 f4 f5 f6 := h
theorem IsS102.drew {w0 W : World} {g : Nat} {f0 : List (S24)} {f1 : List (List (S51))} {f2 : List Int} {f3 : List Int} {f4 : List Int} {f5 : List Int} {f6 : Int} (h : IsS102 w0 W g f0 f1 f2 f3 f4 f5 f6) : IsS102 w0 W.drew g f0 f1 f2 f3 f4 f5 f6 := h
theorem IsS102.at_ {w0 W : World} {g : Nat} {f0 : List (S24)} {f1 : List (List (S51))} {f2 : List Int} {f3 : List Int} {f4 : List Int} {f5 : List Int} {f6 : Int} {w' : World} {m : Nat} (hq : W.drewN m = w') (h : IsS102 w0 W g f0 f1 f2 f3 f4 f5 f6) : IsS102 w0 w' g f0 f1 f2 f3 f4 f5 f6 := by subst hq; exact IsS102.drewN h m
theorem IsS102.apart {w0 W : World} {g : Nat} {f0 : List (S24)} {f1 : List (List (S51))} {f2 : List Int} {f3 : List Int} {f4 : List Int} {f5 : List Int} {f6 : Int} {α : Type} {d : Kd α} {e : Nat} {base : Nat} {ok : Nat → Prop} {v : Value} {xs : List α} (h : IsS102 w0 W g f0 f1 f2 f3 f4 f5 f6) (ho : d.R e W base ok v xs) (ht : ∀ q, q ∈ e :: d.E → q ≠ 102) : d.R e W base (fun k => ok k ∧ k ≠ g) v xs := by
 obtain ⟨A0, c0, A1, c1, A2, c2, A3, c3, A4, c4, A5, c5, hb, hg, hr0, hr1, hr2, hr3, hr4, hr5⟩ := h
 exact Kd.R_types ho hb ht
theorem IsS102.own_ne {w0 W : World} {g : Nat} {f0 : List (S24)} {f1 : List (List (S51))} {f2 : List Int} {f3 : List Int} {f4 : List Int} {f5 : List Int} {f6 : Int} {α : Type} {d : Kd α} {e : Nat} {base : Nat} {ok : Nat → Prop} {v : Value} {xs : List α} (h : IsS102 w0 W g f0 f1 f2 f3 f4 f5 f6) (ho : d.R e W base ok v xs) (ht : e ≠ 102) : some g ≠ v.ownBlock := by
 obtain ⟨A0, c0, A1, c1, A2, c2, A3, c3, A4, c4, A5, c5, hb, hg, hr0, hr1, hr2, hr3, hr4, hr5⟩ := h
 exact Kd.R_ne ho hb ht
theorem IsS102.lt {w0 W : World} {g : Nat} {f0 : List (S24)} {f1 : List (List (S51))} {f2 : List Int} {f3 : List Int} {f4 : List Int} {f5 : List Int} {f6 : Int} (h : IsS102 w0 W g f0 f1 f2 f3 f4 f5 f6) : g < W.heap.size := by
 obtain ⟨A0, c0, A1, c1, A2, c2, A3, c3, A4, c4, A5, c5, hb, hg, hr0, hr1, hr2, hr3, hr4, hr5⟩ := h
 exact blk_lt hb
theorem IsS102.ge {w0 W : World} {g : Nat} {f0 : List (S24)} {f1 : List (List (S51))} {f2 : List Int} {f3 : List Int} {f4 : List Int} {f5 : List Int} {f6 : Int} (h : IsS102 w0 W g f0 f1 f2 f3 f4 f5 f6) : w0.heap.size ≤ g := by
 obtain ⟨A0, c0, A1, c1, A2, c2, A3, c3, A4, c4, A5, c5, hb, hg, hr0, hr1, hr2, hr3, hr4, hr5⟩ := h
 exact hg
end Go.Proofs.Ytibfkkjkahpobaa.PDag
end
section
namespace Go.Proofs.Ytibfkkjkahpobaa.PDag
attribute [local go_sem] max2_int min2_int max_two min_two max_three min_three max_four min_four   -- for this text's walks alone
def r13_busy.l0 : Nat → List Int → List Int → Int → Int → Option (Bool)
  | 0, _, _, _, _ => none
  | k + 1, x0, x1, x2, x7 => if x7 < (x0.length : Int) then (if 0 ≤ x7 then (if (rd x0 x7) = x2 then (if x7 < (x1.length : Int) then (if (rd x1 x7) = 0 then (some true) else (r13_busy.l0 k x0 x1 x2 (wrap64 (x7 + 1)))) else (none)) else (r13_busy.l0 k x0 x1 x2 (wrap64 (x7 + 1)))) else (none)) else (some false)
def r13_busy.f (k : Nat) (l0 : List Int) (l1 : List Int) (a2 : Int) : Option (Bool) := r13_busy.l0 k l0 l1 a2 0
set_option maxHeartbeats 8000000 in
set_option maxRecDepth 100000 in
theorem r13_busy.calls (k : Nat) (A0 : Option Addr) (c0 : Nat) (l0 : List Int) (A1 : Option Addr) (c1 : Nat) (l1 : List Int) (a2 : Int) (r : Bool) (w : World) (hr0 : Kd.C (Kd.int .i64) w A0 l0.length l0) (hc0 : l0.length ≤ c0) (hr1 : Kd.C (Kd.int .i64) w A1 l1.length l1) (hc1 : l1.length ≤ c1) (h : r13_busy.f k l0 l1 a2 = some r) :
    Calls Try.prog 107 #[.slice A0 l0.length c0, .slice A1 l1.length c1, .int .i64 a2] w fun e w' => e = .returned (.bool r) ∧ Dr_ w w' := by
  have HR0 := As_.mk hr0
  have HC0 := As_.mk hc0
  clear hr0 hc0
  have HR1 := As_.mk hr1
  have HC1 := As_.mk hc1
  clear hr1 hc1
  have H : (r13_busy.l0 k l0 l1 a2 0) = some r := h
  clear h
  have H' := As_.mk H
  clear H
  go_enter Try.func107, Try.ntmps107
  go_wp2
  go_loopg [7] k (fun kq v7 w' => ∃ (x7_1 : Int), v7 = .int .i64 x7_1 ∧ As_ (r13_busy.l0 kq l0 l1 a2 x7_1 = some r) ∧ As_ (kq ≤ k) ∧ Dr_ w w')
  case atStart => exact ⟨(0), eQ_, H', ⟨Nat.le_refl _⟩, by repeat (first | exact Dr_.refl _ | apply Dr_.step)⟩
  case round =>
    clear H'
    (try clear c1); (try clear p2)
    obtain ⟨x7_1, rfl, HA, HK1, ⟨m1, rfl⟩⟩ := hrel
    cases gk with
    | zero => exact absurd HA.out (by simp [r13_busy.l0])
    | succ k1 =>
      have H := HA.out
      clear HA
      simp only [r13_busy.l0] at H
      by_cases c4 : x7_1 < (l0.length : Int)
      · rw [if_pos c4] at H
        have c4b0 := decide_eq_true c4
        clear c4
        by_cases c5 : 0 ≤ x7_1
        · rw [if_pos c5] at H
          have c5b0 := decide_eq_true c5
          clear c5
          by_cases c6 : (rd l0 x7_1) = a2
          · rw [if_pos c6] at H
            have c6b0 := beq_iff_eq.mpr c6
            have c6b1 := bF_ c6
            clear c6
            by_cases c7 : x7_1 < (l1.length : Int)
            · rw [if_pos c7] at H
              have c7b0 := decide_eq_true c7
              clear c7
              by_cases c8 : (rd l1 x7_1) = 0
              · rw [if_pos c8] at H
                have c8b0 := beq_iff_eq.mpr c8
                have c8b1 := bF_ c8
                clear c8
                obtain rfl := oI_ H
                have p652 : 0 ≤ (x7_1 : Int) := oD_
                have q652 : x7_1 < (l0.length : Int) := oD_
                obtain ⟨ad652, e652, hx652_0⟩ := Kd.at_int HR0.out x7_1 p652 q652
                cases e652
                replace p652 := eq_true p652
                replace q652 := eq_true q652
                have p653 : 0 ≤ (x7_1 : Int) := oD_
                have q653 : x7_1 < (l1.length : Int) := oD_
                obtain ⟨ad653, e653, hx653_0⟩ := Kd.at_int HR1.out x7_1 p653 q653
                cases e653
                replace p653 := eq_true p653
                replace q653 := eq_true q653
                go_wp2
                go_ret
                exact ⟨by first | rfl | (simp; done) | (simp [*]; done) | (simp [wrap64]; done) | (congr 1; rw [Bool.eq_iff_iff]; simp; done), by repeat (first | exact Dr_.refl _ | apply Dr_.step)⟩
              · rw [if_neg c8] at H
                have c8b0 := bE_ c8
                have c8b1 := bne_iff_ne.mpr c8
                have H' := As_.mk H
                clear H
                have p652 : 0 ≤ (x7_1 : Int) := oD_
                have q652 : x7_1 < (l0.length : Int) := oD_
                obtain ⟨ad652, e652, hx652_0⟩ := Kd.at_int HR0.out x7_1 p652 q652
                cases e652
                replace p652 := eq_true p652
                replace q652 := eq_true q652
                have p653 : 0 ≤ (x7_1 : Int) := oD_
                have q653 : x7_1 < (l1.length : Int) := oD_
                obtain ⟨ad653, e653, hx653_0⟩ := Kd.at_int HR1.out x7_1 p653 q653
                cases e653
                replace p653 := eq_true p653
                replace q653 := eq_true q653
                go_wp2
                go_roundg k1
                case measure => have := HK1.out; omega
                case rel => exact ⟨(wrap64 (x7_1 + 1)), eQ_, H', ⟨by have := HK1.out; omega⟩, by repeat (first | exact Dr_.refl _ | apply Dr_.step)⟩
            · rw [if_neg c7] at H
              exact absurd H (by simp)
          · rw [if_neg c6] at H
            have c6b0 := bE_ c6
            have c6b1 := bne_iff_ne.mpr c6
            have H' := As_.mk H
            clear H
            have p652 : 0 ≤ (x7_1 : Int) := oD_
            have q652 : x7_1 < (l0.length : Int) := oD_
            obtain ⟨ad652, e652, hx652_0⟩ := Kd.at_int HR0.out x7_1 p652 q652
            cases e652
            replace p652 := eq_true p652
            replace q652 := eq_true q652
            go_wp2
            go_roundg k1
            case measure => have := HK1.out; omega
            case rel => exact ⟨(wrap64 (x7_1 + 1)), eQ_, H', ⟨by have := HK1.out; omega⟩, by repeat (first | exact Dr_.refl _ | apply Dr_.step)⟩
        · rw [if_neg c5] at H
          exact absurd H (by simp)
      · rw [if_neg c4] at H
        have c4b0 := decide_eq_false c4
        clear c4
        obtain rfl := oI_ H
        go_wp2
        go_ret
        exact ⟨by first | rfl | (simp; done) | (simp [*]; done) | (simp [wrap64]; done) | (congr 1; rw [Bool.eq_iff_iff]; simp; done), by repeat (first | exact Dr_.refl _ | apply Dr_.step)⟩
end Go.Proofs.Ytibfkkjkahpobaa.PDag
end
section
namespace Go.Proofs.Ytibfkkjkahpobaa.PDag
attribute [local go_sem] max2_int min2_int max_two min_two max_three min_three max_four min_four   -- for this text's walks alone
def r0_Between.f (a0 : Int) (a1 : Int) (a2 : Int) : Option (Bool) := if a0 ≥ a1 then (some (decide (a0 ≤ a2))) else (some false)
set_option maxHeartbeats 8000000 in
set_option maxRecDepth 100000 in
theorem r0_Between.calls (a0 : Int) (a1 : Int) (a2 : Int) (r : Bool) (w : World) (h : r0_Between.f a0 a1 a2 = some r) :
    Calls Try.prog 54 #[.int .i64 a0, .int .i64 a1, .int .i64 a2] w fun e w' => e = .returned (.bool r) ∧ Dr_ w w' := by
 have H : (if a0 ≥ a1 then (some (decide (a0 ≤ a2))) else (some false)) = some r := h
 clear h
 by_cases c4 : a0 ≥ a1
 ·rw [if_pos c4] at H
  have c4b0 := decide_eq_true c4
  clear c4
  obtain rfl := oI_ H
  go_enter Try.func54, Try.ntmps54
  go_wp2
  go_ret
  exact ⟨by first | rfl | (simp; done) | (simp [*]; done) | (simp [wrap64]; done) | (congr 1; rw [Bool.eq_iff_iff]; simp; done), by repeat (first | exact Dr_.refl _ | apply Dr_.step)⟩
 rw [if_neg c4] at H
 have c4b0 := decide_eq_false c4
 clear c4
 obtain rfl := oI_ H
 go_enter Try.func54, Try.ntmps54
 go_wp2
 go_ret
 exact ⟨by first | rfl | (simp; done) | (simp [*]; done) | (simp [wrap64]; done) | (congr 1; rw [Bool.eq_iff_iff]; simp; done), by repeat (first | exact Dr_.refl _ | apply Dr_.step)⟩
def r3_Effect.f (a0 : Int) : Option (Bool) := if a0 = 16 then (some true) else (if a0 = 17 then (some true) else ((r0_Between.f a0 24 27).bind fun t194 => (if t194 = true then (some true) else ((r0_Between.f a0 31 33).bind fun t195 => (some t195)))))
set_option maxHeartbeats 8000000 in
set_option maxRecDepth 100000 in
theorem r3_Effect.calls (a0 : Int) (r : Bool) (w : World) (h : r3_Effect.f a0 = some r) :
    Calls Try.prog 36 #[.int .i64 a0] w fun e w' => e = .returned (.bool r) ∧ Dr_ w w' := by
 have H : (if a0 = 16 then (some true) else (if a0 = 17 then (some true) else ((r0_Between.f a0 24 27).bind fun t194 => (if t194 = true then (some true) else ((r0_Between.f a0 31 33).bind fun t195 => (some t195)))))) = some r := h
 clear h
 by_cases c2 : a0 = 16
 ·rw [if_pos c2] at H
  have c2b0 := beq_iff_eq.mpr c2
  have c2b1 := bF_ c2
  clear c2
  obtain rfl := oI_ H
  go_enter Try.func36, Try.ntmps36
  go_wp2
  go_ret
  exact ⟨by first | rfl | (simp; done) | (simp [*]; done) | (simp [wrap64]; done) | (congr 1; rw [Bool.eq_iff_iff]; simp; done), by repeat (first | exact Dr_.refl _ | apply Dr_.step)⟩
 rw [if_neg c2] at H
 have c2b0 := bE_ c2
 have c2b1 := bne_iff_ne.mpr c2
 by_cases c3 : a0 = 17
 ·rw [if_pos c3] at H
  have c3b0 := beq_iff_eq.mpr c3
  have c3b1 := bF_ c3
  clear c3
  obtain rfl := oI_ H
  go_enter Try.func36, Try.ntmps36
  go_wp2
  go_ret
  exact ⟨by first | rfl | (simp; done) | (simp [*]; done) | (simp [wrap64]; done) | (congr 1; rw [Bool.eq_iff_iff]; simp; done), by repeat (first | exact Dr_.refl _ | apply Dr_.step)⟩
 rw [if_neg c3] at H
 have c3b0 := bE_ c3
 have c3b1 := bne_iff_ne.mpr c3
 replace H := oB_ H
 obtain ⟨t194, A40, H⟩ := H
 have A4 := As_.mk A40
 clear A40
 by_cases c5 : t194 = true
 ·subst c5
  rw [if_pos rfl] at H
  obtain rfl := oI_ H
  go_enter Try.func36, Try.ntmps36
  go_wp2_with (first | (go_at_call 54; (with_reducible refine (r0_Between.calls a0 24 27 true _ A4.out).mono ?_); rintro e w' ⟨rfl, ⟨nd, rfl⟩⟩))
  go_ret
  exact ⟨by first | rfl | (simp; done) | (simp [*]; done) | (simp [wrap64]; done) | (congr 1; rw [Bool.eq_iff_iff]; simp; done), by repeat (first | exact Dr_.refl _ | apply Dr_.step)⟩
 replace c5 := eF_ c5
 subst c5
 rw [if_neg Bool.false_ne_true] at H
 replace H := oB_ H
 obtain ⟨t195, A60, H⟩ := H
 have A6 := As_.mk A60
 clear A60
 obtain rfl := oI_ H
 go_enter Try.func36, Try.ntmps36
 go_wp2_with (first | (go_at_call 54; (with_reducible refine (r0_Between.calls a0 24 27 false _ A4.out).mono ?_); rintro e w' ⟨rfl, ⟨nd, rfl⟩⟩) | (go_at_call 54; (with_reducible refine (r0_Between.calls a0 31 33 t195 _ A6.out).mono ?_); rintro e w' ⟨rfl, ⟨nd, rfl⟩⟩))
 go_ret
 exact ⟨by first | rfl | (simp; done) | (simp [*]; done) | (simp [wrap64]; done) | (congr 1; rw [Bool.eq_iff_iff]; simp; done), by repeat (first | exact Dr_.refl _ | apply Dr_.step)⟩
def r3_Form.f (a0 : Int) : Option (Int) := (some (([0, 1, 1, 1, 1, 1, 1, 1, 1, 1, 1, 1, 1, 1, 1, 1, 1, 1, 1, 1, 1, 2, 3, 4, 3, 5, 6, 7, 8, 9, 9, 8, 0, 0] : List Int) : List Int)).bind fun y196 => (if 0 ≤ a0 then (if a0 < (y196.length : Int) then (some (rd y196 a0)) else (none)) else (none))
set_option maxHeartbeats 8000000 in
set_option maxRecDepth 100000 in
theorem r3_Form.calls (a0 : Int) (r : Int) (w : World) (h : r3_Form.f a0 = some r) :
    Calls Try.prog 15 #[.int .i64 a0] w fun e w' => e = .returned (.int .i64 r) ∧ Below w.heap.size w w' := by
 have HB := As_.mk (Below.refl w.heap.size w)
 have H : ((some (([0, 1, 1, 1, 1, 1, 1, 1, 1, 1, 1, 1, 1, 1, 1, 1, 1, 1, 1, 1, 1, 2, 3, 4, 3, 5, 6, 7, 8, 9, 9, 8, 0, 0] : List Int) : List Int)).bind fun y196 => (if 0 ≤ a0 then (if a0 < (y196.length : Int) then (some (rd y196 a0)) else (none)) else (none))) = some r := h
 clear h
 obtain ⟨y196, hy196⟩ : ∃ y_ : List Int, y_ = (([0, 1, 1, 1, 1, 1, 1, 1, 1, 1, 1, 1, 1, 1, 1, 1, 1, 1, 1, 1, 1, 2, 3, 4, 3, 5, 6, 7, 8, 9, 9, 8, 0, 0] : List Int)) := ⟨_, rfl⟩
 replace H : (if 0 ≤ a0 then (if a0 < (y196.length : Int) then (some (rd y196 a0)) else (none)) else (none)) = some r := by first | (rw [hy196]; with_reducible exact H) | (have H2_ := (Option.bind_some _ _).symm.trans H; rw [hy196]; with_reducible exact H2_) | (have H2_ := (Option.bind_some _ _).symm.trans H; with_reducible exact H2_) | with_reducible exact H | (rw [hy196]; exact H) | exact H
 have Ny196 := As_.mk hy196
 clear hy196
 by_cases c2 : 0 ≤ a0
 ·rw [if_pos c2] at H
  have c2b0 := decide_eq_true c2
  clear c2
  by_cases c3 : a0 < (y196.length : Int)
  ·rw [if_pos c3] at H
   have c3b0 := decide_eq_true c3
   clear c3
   obtain rfl := oI_ H
   go_enter Try.func15, Try.ntmps15
   go_wp2_with (first | ((with_reducible refine gate_dst (N := 3) rfl ?_); refine Kd.R_lit (Kd.int .i64) _ 3 ?hg (N := 3) ?hd (xs := ([0, 1, 1, 1, 1, 1, 1, 1, 1, 1, 1, 1, 1, 1, 1, 1, 1, 1, 1, 1, 1, 2, 3, 4, 3, 5, 6, 7, 8, 9, 9, 8, 0, 0] : List Int)) (inner := [.int .i64 0, .int .i64 1, .int .i64 1, .int .i64 1, .int .i64 1, .int .i64 1, .int .i64 1, .int .i64 1, .int .i64 1, .int .i64 1, .int .i64 1, .int .i64 1, .int .i64 1, .int .i64 1, .int .i64 1, .int .i64 1, .int .i64 1, .int .i64 1, .int .i64 1, .int .i64 1, .int .i64 1, .int .i64 2, .int .i64 3, .int .i64 4, .int .i64 3, .int .i64 5, .int .i64 6, .int .i64 7, .int .i64 8, .int .i64 9, .int .i64 9, .int .i64 8, .int .i64 0, .int .i64 0]) (ok := fun _ => True) (okp := fun _ => True) ?hr ?hp (fun _ hk => hk) trivial (Below.refl _ _) (Nat.le_refl _) (by simp) ?_; (case hd => rfl); (case hg => rfl); (case hr => first | (go_simp; done) | (go_simp; rfl)); (case hp => exact (Reps.one (show Kd.M (Kd.int .i64) _ _ _ 0 [.int .i64 0] from rfl) (Reps.one (show Kd.M (Kd.int .i64) _ _ _ 1 [.int .i64 1] from rfl) (Reps.one (show Kd.M (Kd.int .i64) _ _ _ 1 [.int .i64 1] from rfl) (Reps.one (show Kd.M (Kd.int .i64) _ _ _ 1 [.int .i64 1] from rfl) (Reps.one (show Kd.M (Kd.int .i64) _ _ _ 1 [.int .i64 1] from rfl) (Reps.one (show Kd.M (Kd.int .i64) _ _ _ 1 [.int .i64 1] from rfl) (Reps.one (show Kd.M (Kd.int .i64) _ _ _ 1 [.int .i64 1] from rfl) (Reps.one (show Kd.M (Kd.int .i64) _ _ _ 1 [.int .i64 1] from rfl) (Reps.one (show Kd.M (Kd.int .i64) _ _ _ 1 [.int .i64 1] from rfl) (Reps.one (show Kd.M (Kd.int .i64) _ _ _ 1 [.int .i64 1] from rfl) (Reps.one (show Kd.M (Kd.int .i64) _ _ _ 1 [.int .i64 1] from rfl) (Reps.one (show Kd.M (Kd.int .i64) _ _ _ 1 [.int .i64 1] from rfl) (Reps.one (show Kd.M (Kd.int .i64) _ _ _ 1 [.int .i64 1] from rfl) (Reps.one (show Kd.M (Kd.int .i64) _ _ _ 1 [.int .i64 1] from rfl) (Reps.one (show Kd.M (Kd.int .i64) _ _ _ 1 [.int .i64 1] from rfl) (Reps.one (show Kd.M (Kd.int .i64) _ _ _ 1 [.int .i64 1] from rfl) (Reps.one (show Kd.M (Kd.int .i64) _ _ _ 1 [.int .i64 1] from rfl) (Reps.one (show Kd.M (Kd.int .i64) _ _ _ 1 [.int .i64 1] from rfl) (Reps.one (show Kd.M (Kd.int .i64) _ _ _ 1 [.int .i64 1] from rfl) (Reps.one (show Kd.M (Kd.int .i64) _ _ _ 1 [.int .i64 1] from rfl) (Reps.one (show Kd.M (Kd.int .i64) _ _ _ 1 [.int .i64 1] from rfl) (Reps.one (show Kd.M (Kd.int .i64) _ _ _ 2 [.int .i64 2] from rfl) (Reps.one (show Kd.M (Kd.int .i64) _ _ _ 3 [.int .i64 3] from rfl) (Reps.one (show Kd.M (Kd.int .i64) _ _ _ 4 [.int .i64 4] from rfl) (Reps.one (show Kd.M (Kd.int .i64) _ _ _ 3 [.int .i64 3] from rfl) (Reps.one (show Kd.M (Kd.int .i64) _ _ _ 5 [.int .i64 5] from rfl) (Reps.one (show Kd.M (Kd.int .i64) _ _ _ 6 [.int .i64 6] from rfl) (Reps.one (show Kd.M (Kd.int .i64) _ _ _ 7 [.int .i64 7] from rfl) (Reps.one (show Kd.M (Kd.int .i64) _ _ _ 8 [.int .i64 8] from rfl) (Reps.one (show Kd.M (Kd.int .i64) _ _ _ 9 [.int .i64 9] from rfl) (Reps.one (show Kd.M (Kd.int .i64) _ _ _ 9 [.int .i64 9] from rfl) (Reps.one (show Kd.M (Kd.int .i64) _ _ _ 8 [.int .i64 8] from rfl) (Reps.one (show Kd.M (Kd.int .i64) _ _ _ 0 [.int .i64 0] from rfl) (Reps.one (show Kd.M (Kd.int .i64) _ _ _ 0 [.int .i64 0] from rfl) (Reps.none _ _)))))))))))))))))))))))))))))))))))); intro v197 w4 ho5 hb hg_ hnew_; clear hg_ hnew_; (first | rw [← Ny196.out] at ho5 | (simp only [Int.reduceToNat] at ho5; rw [← Ny196.out] at ho5)); replace HO198 := As_.mk (Kd.R_lower ho5 (bY_ (bl_ HB))); replace HB := As_.mk (bT_ (bl_ HB) hb); clear hb ho5; obtain ⟨Ao6, co6, eo6⟩ := Kd.R_slice HO198.out; subst eo6; have p199 : 0 ≤ (a0 : Int) := oD_; have q199 : a0 < (y196.length : Int) := oD_; obtain ⟨ad199, e199, hx199_0⟩ := Kd.at_int (Kd.R_reads' HO198.out).2.2 a0 p199 q199; cases e199; replace p199 := eq_true p199; replace q199 := eq_true q199))
   go_ret
   exact ⟨by first | rfl | (simp [eN_, eS_] <;> rfl) | (simp [*, eN_, eS_] <;> rfl), bl_ HB⟩
  rw [if_neg c3] at H
  exact absurd H (by simp)
 rw [if_neg c2] at H
 exact absurd H (by simp)
def r3_HasD.f (a0 : Int) : Option (Bool) := (r0_Between.f a0 1 4).bind fun t200 => (if t200 = true then (some true) else (some (a0 == 6)))
set_option maxHeartbeats 8000000 in
set_option maxRecDepth 100000 in
theorem r3_HasD.calls (a0 : Int) (r : Bool) (w : World) (h : r3_HasD.f a0 = some r) :
    Calls Try.prog 16 #[.int .i64 a0] w fun e w' => e = .returned (.bool r) ∧ Dr_ w w' := by
 have H : ((r0_Between.f a0 1 4).bind fun t200 => (if t200 = true then (some true) else (some (a0 == 6)))) = some r := h
 clear h
 replace H := oB_ H
 obtain ⟨t200, A20, H⟩ := H
 have A2 := As_.mk A20
 clear A20
 by_cases c3 : t200 = true
 ·subst c3
  rw [if_pos rfl] at H
  obtain rfl := oI_ H
  go_enter Try.func16, Try.ntmps16
  go_wp2_with (first | ((with_reducible refine gC_ (f := 54) rfl ?_); refine gL_ (some 4) Try.func54 #[.int .i64 a0, .int .i64 1, .int .i64 4] rfl ?_; (with_reducible refine (r0_Between.calls a0 1 4 true _ A2.out).mono ?_); rintro e w' ⟨rfl, ⟨nd, rfl⟩⟩; refine ⟨_, rfl, ?_⟩))
  go_ret
  exact ⟨by first | rfl | (simp; done) | (simp [*]; done) | (simp [wrap64]; done) | (congr 1; rw [Bool.eq_iff_iff]; simp; done), by repeat (first | exact Dr_.refl _ | apply Dr_.step)⟩
 replace c3 := eF_ c3
 subst c3
 rw [if_neg Bool.false_ne_true] at H
 obtain rfl := oI_ H
 go_enter Try.func16, Try.ntmps16
 go_wp2_with (first | ((with_reducible refine gC_ (f := 54) rfl ?_); refine gL_ (some 4) Try.func54 #[.int .i64 a0, .int .i64 1, .int .i64 4] rfl ?_; (with_reducible refine (r0_Between.calls a0 1 4 false _ A2.out).mono ?_); rintro e w' ⟨rfl, ⟨nd, rfl⟩⟩; refine ⟨_, rfl, ?_⟩))
 go_ret
 exact ⟨by first | rfl | (simp; done) | (simp [*]; done) | (simp [wrap64]; done) | (congr 1; rw [Bool.eq_iff_iff]; simp; done), by repeat (first | exact Dr_.refl _ | apply Dr_.step)⟩
def r3_Writes.f (a0_0 : Int) (a0_1 : Int) (a0_2 : Int) (a0_3 : Int) (a0_4 : Int) (a0_5 : ByteArray) : Option (Int) := (r3_Form.f a0_0).bind fun t202 => ((r3_HasD.f t202).bind fun t203 => (if t203 = true then (some a0_1) else (some (-1))))
set_option maxHeartbeats 8000000 in
set_option maxRecDepth 100000 in
theorem r3_Writes.calls (a0_0 : Int) (a0_1 : Int) (a0_2 : Int) (a0_3 : Int) (a0_4 : Int) (a0_5 : ByteArray) (r : Int) (w : World) (h : r3_Writes.f a0_0 a0_1 a0_2 a0_3 a0_4 a0_5 = some r) :
    Calls Try.prog 71 #[.agg #[.int .i64 a0_0, .int .i64 a0_1, .int .i64 a0_2, .int .i64 a0_3, .int .i64 a0_4, .string a0_5]] w fun e w' => e = .returned (.int .i64 r) ∧ Below w.heap.size w w' := by
 have hu24 := Try.underlying24
 have HB := As_.mk (Below.refl w.heap.size w)
 have H : ((r3_Form.f a0_0).bind fun t202 => ((r3_HasD.f t202).bind fun t203 => (if t203 = true then (some a0_1) else (some (-1))))) = some r := h
 clear h
 replace H := oB_ H
 obtain ⟨t202, A20, H⟩ := H
 have A2 := As_.mk A20
 clear A20
 replace H := oB_ H
 obtain ⟨t203, A30, H⟩ := H
 have A3 := As_.mk A30
 clear A30
 by_cases c4 : t203 = true
 ·subst c4
  rw [if_pos rfl] at H
  obtain rfl := oI_ H
  go_enter Try.func71, Try.ntmps71
  go_wp2_with (first | ((with_reducible refine gate_dst (N := 1) rfl ?_); refine bX_ (N := 1) (cs := #[.int .i64 a0_0, .int .i64 a0_1, .int .i64 a0_2, .int .i64 a0_3, .int .i64 a0_4, .string a0_5]) (t := 24) ?_; intro gb201 hg w5 hbox hb; replace BK201 := As_.mk (hbox); replace GW201 := As_.mk ((by rw [hg]; exact (bY_ (bl_ HB)) : w.heap.size ≤ gb201)); replace GE201 := As_.mk ((by rw [hg]; exact (bY_ (bl_ HB)) : w.heap.size ≤ gb201)); replace HB := As_.mk (bT_ (bl_ HB) hb); clear hb hbox hg; obtain ⟨hcz6_0, hcz6_1, hcz6_2, hcz6_3, hcz6_4, hcz6_5⟩ := cl6_ BK201.out; obtain ⟨hfz6_0, hfz6_1, hfz6_2, hfz6_3, hfz6_4, hfz6_5⟩ := fz6_ BK201.out) | ((with_reducible refine gC_ (f := 15) rfl ?_); refine gL_ (some 5) Try.func15 #[.int .i64 a0_0] rfl ?_; (with_reducible refine (r3_Form.calls a0_0 t202 _ A2.out).mono ?_); rintro e w7 ⟨rfl, hb⟩; refine ⟨_, rfl, ?_⟩; replace BK201 := As_.mk (kB_ (rB_ BK201) hb); replace HB := As_.mk (bT_ (bs_ HB GE201) hb)) | ((with_reducible refine gC_ (f := 16) rfl ?_); refine gL_ (some 6) Try.func16 #[.int .i64 t202] rfl ?_; (with_reducible refine (r3_HasD.calls t202 true _ A3.out).mono ?_); rintro e w' ⟨rfl, ⟨nd, rfl⟩⟩; refine ⟨_, rfl, ?_⟩; obtain ⟨hcz8_0, hcz8_1, hcz8_2, hcz8_3, hcz8_4, hcz8_5⟩ := cl6_ BK201.out; obtain ⟨hfz8_0, hfz8_1, hfz8_2, hfz8_3, hfz8_4, hfz8_5⟩ := fz6_ BK201.out))
  go_ret
  exact ⟨by first | rfl | (simp [eN_, eS_] <;> rfl) | (simp [*, eN_, eS_] <;> rfl), bs_ HB GE201⟩
 replace c4 := eF_ c4
 subst c4
 rw [if_neg Bool.false_ne_true] at H
 obtain rfl := oI_ H
 go_enter Try.func71, Try.ntmps71
 go_wp2_with (first | ((with_reducible refine gate_dst (N := 1) rfl ?_); refine bX_ (N := 1) (cs := #[.int .i64 a0_0, .int .i64 a0_1, .int .i64 a0_2, .int .i64 a0_3, .int .i64 a0_4, .string a0_5]) (t := 24) ?_; intro gb201 hg w9 hbox hb; replace BK201 := As_.mk (hbox); replace GW201 := As_.mk ((by rw [hg]; exact (bY_ (bl_ HB)) : w.heap.size ≤ gb201)); replace GE201 := As_.mk ((by rw [hg]; exact (bY_ (bl_ HB)) : w.heap.size ≤ gb201)); replace HB := As_.mk (bT_ (bl_ HB) hb); clear hb hbox hg; obtain ⟨hcz10_0, hcz10_1, hcz10_2, hcz10_3, hcz10_4, hcz10_5⟩ := cl6_ BK201.out; obtain ⟨hfz10_0, hfz10_1, hfz10_2, hfz10_3, hfz10_4, hfz10_5⟩ := fz6_ BK201.out) | ((with_reducible refine gC_ (f := 15) rfl ?_); refine gL_ (some 5) Try.func15 #[.int .i64 a0_0] rfl ?_; (with_reducible refine (r3_Form.calls a0_0 t202 _ A2.out).mono ?_); rintro e w11 ⟨rfl, hb⟩; refine ⟨_, rfl, ?_⟩; replace BK201 := As_.mk (kB_ (rB_ BK201) hb); replace HB := As_.mk (bT_ (bs_ HB GE201) hb)) | ((with_reducible refine gC_ (f := 16) rfl ?_); refine gL_ (some 6) Try.func16 #[.int .i64 t202] rfl ?_; (with_reducible refine (r3_HasD.calls t202 false _ A3.out).mono ?_); rintro e w' ⟨rfl, ⟨nd, rfl⟩⟩; refine ⟨_, rfl, ?_⟩))
 go_ret
 exact ⟨by first | rfl | (simp [eN_, eS_] <;> rfl) | (simp [*, eN_, eS_] <;> rfl), bs_ HB GE201⟩
def r0_In.l0 : Nat → List Int → Int → Int → Option (Int)
  | 0, _, _, _ => none
  | k + 1, x0, x1, x5 => if x5 < (x0.length : Int) then (if 0 ≤ x5 then (if (rd x0 x5) = x1 then (some x5) else (r0_In.l0 k x0 x1 (wrap64 (x5 + 1)))) else (none)) else (some (-1))
def r0_In.f (k : Nat) (l0 : List Int) (a1 : Int) : Option (Int) := r0_In.l0 k l0 a1 0
theorem r0_In.mono_l : ∀ k, (∀ y0 y1 y2, LeO (r0_In.l0 k y0 y1 y2) (r0_In.l0 (k + 1) y0 y1 y2))
  | 0 => fun _ _ _ r h => by simp [r0_In.l0] at h
  | k + 1 => by
    have ih0 := r0_In.mono_l k
    · intro y0 y1 y2
      unfold r0_In.l0
      repeat' first
      | (with_reducible exact ih0 _ _ _)
      | (with_reducible exact LeO.refl _)
      | (with_reducible exact LeO.none _)
      | (with_reducible refine LeO.ite ?_ ?_)
      | (with_reducible refine LeO.bind ?_ (fun _ => ?_))
      | exact LeO.none _
      | refine LeO.ite ?_ ?_
      | refine LeO.bind ?_ (fun _ => ?_)
theorem r0_In.mono : ∀ a0 a1 k, LeO (r0_In.f k a0 a1) (r0_In.f (k + 1) a0 a1) := by
 intro a0 a1 k
 have ih0 := r0_In.mono_l k
 unfold r0_In.f
 repeat' first
  | (with_reducible exact ih0 _ _ _)
  | (with_reducible exact LeO.refl _)
  | (with_reducible exact LeO.none _)
  | (with_reducible refine LeO.ite ?_ ?_)
  | (with_reducible refine LeO.bind ?_ (fun _ => ?_))
  | exact LeO.none _
  | refine LeO.ite ?_ ?_
  | refine LeO.bind ?_ (fun _ => ?_)
set_option maxHeartbeats 8000000 in
set_option maxRecDepth 100000 in
theorem r0_In.calls (k : Nat) (A0 : Option Addr) (c0 : Nat) (l0 : List Int) (a1 : Int) (r : Int) (w : World) (hr0 : Kd.C (Kd.int .i64) w A0 l0.length l0) (hc0 : l0.length ≤ c0) (h : r0_In.f k l0 a1 = some r) :
    Calls Try.prog 72 #[.slice A0 l0.length c0, .int .i64 a1] w fun e w' => e = .returned (.int .i64 r) ∧ Dr_ w w' := by
 have HR0 := As_.mk hr0
 have HC0 := As_.mk hc0
 clear hr0 hc0
 have H : (r0_In.l0 k l0 a1 0) = some r := h
 clear h
 have H' := As_.mk H
 clear H
 go_enter Try.func72, Try.ntmps72
 go_wp2
 go_loopg [5] k (fun kq v5 w' => ∃ (x5_1 : Int), v5 = .int .i64 x5_1 ∧ As_ (r0_In.l0 kq l0 a1 x5_1 = some r) ∧ As_ (kq ≤ k) ∧ Dr_ w w')
 case atStart => exact ⟨(0), eQ_, H', ⟨Nat.le_refl _⟩, by repeat (first | exact Dr_.refl _ | apply Dr_.step)⟩
 case round =>
  clear H'
  obtain ⟨x5_1, rfl, HA, HK1, ⟨m1, rfl⟩⟩ := hrel
  cases gk with
  | zero => exact absurd HA.out (by simp [r0_In.l0])
  | succ k1 =>
   have H := HA.out
   clear HA
   simp only [r0_In.l0] at H
   by_cases c3 : x5_1 < (l0.length : Int)
   ·rw [if_pos c3] at H
    have c3b0 := decide_eq_true c3
    clear c3
    by_cases c4 : 0 ≤ x5_1
    ·rw [if_pos c4] at H
     have c4b0 := decide_eq_true c4
     clear c4
     by_cases c5 : (rd l0 x5_1) = a1
     ·rw [if_pos c5] at H
      have c5b0 := beq_iff_eq.mpr c5
      have c5b1 := bF_ c5
      clear c5
      obtain rfl := oI_ H
      have p204 : 0 ≤ (x5_1 : Int) := oD_
      have q204 : x5_1 < (l0.length : Int) := oD_
      obtain ⟨ad204, e204, hx204_0⟩ := Kd.at_int HR0.out x5_1 p204 q204
      cases e204
      replace p204 := eq_true p204
      replace q204 := eq_true q204
      go_wp2
      go_ret
      exact ⟨by first | rfl | (simp; done) | (simp [*]; done) | (simp [wrap64]; done) | (congr 1; rw [Bool.eq_iff_iff]; simp; done), by repeat (first | exact Dr_.refl _ | apply Dr_.step)⟩
     rw [if_neg c5] at H
     have c5b0 := bE_ c5
     have c5b1 := bne_iff_ne.mpr c5
     have H' := As_.mk H
     clear H
     have p204 : 0 ≤ (x5_1 : Int) := oD_
     have q204 : x5_1 < (l0.length : Int) := oD_
     obtain ⟨ad204, e204, hx204_0⟩ := Kd.at_int HR0.out x5_1 p204 q204
     cases e204
     replace p204 := eq_true p204
     replace q204 := eq_true q204
     go_wp2
     go_roundg k1
     case measure => have := HK1.out; omega
     case rel => exact ⟨(wrap64 (x5_1 + 1)), eQ_, H', ⟨by have := HK1.out; omega⟩, by repeat (first | exact Dr_.refl _ | apply Dr_.step)⟩
    rw [if_neg c4] at H
    exact absurd H (by simp)
   rw [if_neg c3] at H
   have c3b0 := decide_eq_false c3
   clear c3
   obtain rfl := oI_ H
   go_wp2
   go_ret
   exact ⟨by first | rfl | (simp; done) | (simp [*]; done) | (simp [wrap64]; done) | (congr 1; rw [Bool.eq_iff_iff]; simp; done), by repeat (first | exact Dr_.refl _ | apply Dr_.step)⟩
def r3_HasA.f (a0 : Int) : Option (Bool) := (r0_Between.f a0 1 3).bind fun t205 => (if t205 = true then (some true) else (if a0 = 5 then (some true) else (if a0 = 7 then (some true) else (some (a0 == 9)))))
set_option maxHeartbeats 8000000 in
set_option maxRecDepth 100000 in
theorem r3_HasA.calls (a0 : Int) (r : Bool) (w : World) (h : r3_HasA.f a0 = some r) :
    Calls Try.prog 17 #[.int .i64 a0] w fun e w' => e = .returned (.bool r) ∧ Dr_ w w' := by
 have H : ((r0_Between.f a0 1 3).bind fun t205 => (if t205 = true then (some true) else (if a0 = 5 then (some true) else (if a0 = 7 then (some true) else (some (a0 == 9)))))) = some r := h
 clear h
 replace H := oB_ H
 obtain ⟨t205, A20, H⟩ := H
 have A2 := As_.mk A20
 clear A20
 by_cases c3 : t205 = true
 ·subst c3
  rw [if_pos rfl] at H
  obtain rfl := oI_ H
  go_enter Try.func17, Try.ntmps17
  go_wp2_with (first | ((with_reducible refine gC_ (f := 54) rfl ?_); refine gL_ (some 4) Try.func54 #[.int .i64 a0, .int .i64 1, .int .i64 3] rfl ?_; (with_reducible refine (r0_Between.calls a0 1 3 true _ A2.out).mono ?_); rintro e w' ⟨rfl, ⟨nd, rfl⟩⟩; refine ⟨_, rfl, ?_⟩))
  go_ret
  exact ⟨by first | rfl | (simp; done) | (simp [*]; done) | (simp [wrap64]; done) | (congr 1; rw [Bool.eq_iff_iff]; simp; done), by repeat (first | exact Dr_.refl _ | apply Dr_.step)⟩
 replace c3 := eF_ c3
 subst c3
 rw [if_neg Bool.false_ne_true] at H
 by_cases c4 : a0 = 5
 ·rw [if_pos c4] at H
  have c4b0 := beq_iff_eq.mpr c4
  have c4b1 := bF_ c4
  clear c4
  obtain rfl := oI_ H
  go_enter Try.func17, Try.ntmps17
  go_wp2_with (first | ((with_reducible refine gC_ (f := 54) rfl ?_); refine gL_ (some 4) Try.func54 #[.int .i64 a0, .int .i64 1, .int .i64 3] rfl ?_; (with_reducible refine (r0_Between.calls a0 1 3 false _ A2.out).mono ?_); rintro e w' ⟨rfl, ⟨nd, rfl⟩⟩; refine ⟨_, rfl, ?_⟩))
  go_ret
  exact ⟨by first | rfl | (simp; done) | (simp [*]; done) | (simp [wrap64]; done) | (congr 1; rw [Bool.eq_iff_iff]; simp; done), by repeat (first | exact Dr_.refl _ | apply Dr_.step)⟩
 rw [if_neg c4] at H
 have c4b0 := bE_ c4
 have c4b1 := bne_iff_ne.mpr c4
 by_cases c5 : a0 = 7
 ·rw [if_pos c5] at H
  have c5b0 := beq_iff_eq.mpr c5
  have c5b1 := bF_ c5
  clear c5
  obtain rfl := oI_ H
  go_enter Try.func17, Try.ntmps17
  go_wp2_with (first | ((with_reducible refine gC_ (f := 54) rfl ?_); refine gL_ (some 4) Try.func54 #[.int .i64 a0, .int .i64 1, .int .i64 3] rfl ?_; (with_reducible refine (r0_Between.calls a0 1 3 false _ A2.out).mono ?_); rintro e w' ⟨rfl, ⟨nd, rfl⟩⟩; refine ⟨_, rfl, ?_⟩))
  go_ret
  exact ⟨by first | rfl | (simp; done) | (simp [*]; done) | (simp [wrap64]; done) | (congr 1; rw [Bool.eq_iff_iff]; simp; done), by repeat (first | exact Dr_.refl _ | apply Dr_.step)⟩
 rw [if_neg c5] at H
 have c5b0 := bE_ c5
 have c5b1 := bne_iff_ne.mpr c5
 obtain rfl := oI_ H
 go_enter Try.func17, Try.ntmps17
 go_wp2_with (first | ((with_reducible refine gC_ (f := 54) rfl ?_); refine gL_ (some 4) Try.func54 #[.int .i64 a0, .int .i64 1, .int .i64 3] rfl ?_; (with_reducible refine (r0_Between.calls a0 1 3 false _ A2.out).mono ?_); rintro e w' ⟨rfl, ⟨nd, rfl⟩⟩; refine ⟨_, rfl, ?_⟩))
 go_ret
 exact ⟨by first | rfl | (simp; done) | (simp [*]; done) | (simp [wrap64]; done) | (congr 1; rw [Bool.eq_iff_iff]; simp; done), by repeat (first | exact Dr_.refl _ | apply Dr_.step)⟩
def r3_HasB.f (a0 : Int) : Option (Bool) := if a0 = 1 then (some true) else (some (a0 == 5))
set_option maxHeartbeats 8000000 in
set_option maxRecDepth 100000 in
theorem r3_HasB.calls (a0 : Int) (r : Bool) (w : World) (h : r3_HasB.f a0 = some r) :
    Calls Try.prog 18 #[.int .i64 a0] w fun e w' => e = .returned (.bool r) ∧ Dr_ w w' := by
 have H : (if a0 = 1 then (some true) else (some (a0 == 5))) = some r := h
 clear h
 by_cases c2 : a0 = 1
 ·rw [if_pos c2] at H
  have c2b0 := beq_iff_eq.mpr c2
  have c2b1 := bF_ c2
  clear c2
  obtain rfl := oI_ H
  go_enter Try.func18, Try.ntmps18
  go_wp2
  go_ret
  exact ⟨by first | rfl | (simp; done) | (simp [*]; done) | (simp [wrap64]; done) | (congr 1; rw [Bool.eq_iff_iff]; simp; done), by repeat (first | exact Dr_.refl _ | apply Dr_.step)⟩
 rw [if_neg c2] at H
 have c2b0 := bE_ c2
 have c2b1 := bne_iff_ne.mpr c2
 obtain rfl := oI_ H
 go_enter Try.func18, Try.ntmps18
 go_wp2
 go_ret
 exact ⟨by first | rfl | (simp; done) | (simp [*]; done) | (simp [wrap64]; done) | (congr 1; rw [Bool.eq_iff_iff]; simp; done), by repeat (first | exact Dr_.refl _ | apply Dr_.step)⟩
def r3_Reads.j0 : Nat → List Int → Int → Int → Int → Int → Int → Int → ByteArray → Option (List Int)
  | 0, _, _, _, _, _, _, _, _ => none
  | k + 1, x3, x4, x207a, x207b, x207c, x207d, x207e, x207f => (r3_HasB.f x4).bind fun t212 => (if t212 = true then (if x3.length < 17592186044416 then (some (x3 ++ [x207d])) else (none)) else (some x3))
def r3_Reads.f (k : Nat) (a0_0 : Int) (a0_1 : Int) (a0_2 : Int) (a0_3 : Int) (a0_4 : Int) (a0_5 : ByteArray) : Option (List Int) := (r3_Form.f a0_0).bind fun t207 => ((r3_HasA.f t207).bind fun t208 => (if t208 = true then (if ([] : List Int).length < 17592186044416 then (r3_Reads.j0 k (([] : List Int) ++ [a0_2]) t207 a0_0 a0_1 a0_2 a0_3 a0_4 a0_5) else (none)) else (r3_Reads.j0 k ([] : List Int) t207 a0_0 a0_1 a0_2 a0_3 a0_4 a0_5)))
set_option maxHeartbeats 8000000 in
set_option maxRecDepth 100000 in
theorem r3_Reads.calls (k : Nat) (a0_0 : Int) (a0_1 : Int) (a0_2 : Int) (a0_3 : Int) (a0_4 : Int) (a0_5 : ByteArray) (r : List Int) (w : World) (h : r3_Reads.f k a0_0 a0_1 a0_2 a0_3 a0_4 a0_5 = some r) :
    Calls Try.prog 73 #[.agg #[.int .i64 a0_0, .int .i64 a0_1, .int .i64 a0_2, .int .i64 a0_3, .int .i64 a0_4, .string a0_5]] w fun e w' => ∃ v0_ : Value, e = .returned (v0_) ∧ Kd.R (Kd.int .i64) 3 w' w.heap.size (fun _ => True) v0_ r ∧ Below w.heap.size w w' := by
 have hu24 := Try.underlying24
 have HB := As_.mk (Below.refl w.heap.size w)
 have H : ((r3_Form.f a0_0).bind fun t207 => ((r3_HasA.f t207).bind fun t208 => (if t208 = true then (if ([] : List Int).length < 17592186044416 then (r3_Reads.j0 k (([] : List Int) ++ [a0_2]) t207 a0_0 a0_1 a0_2 a0_3 a0_4 a0_5) else (none)) else (r3_Reads.j0 k ([] : List Int) t207 a0_0 a0_1 a0_2 a0_3 a0_4 a0_5)))) = some r := h
 clear h
 replace H := oB_ H
 obtain ⟨t207, A20, H⟩ := H
 have A2 := As_.mk A20
 clear A20
 replace H := oB_ H
 obtain ⟨t208, A30, H⟩ := H
 have A3 := As_.mk A30
 clear A30
 have HC4 := As_.mk H
 clear H
 go_enter Try.func73, Try.ntmps73
 go_upto_if 9 with (first | ((with_reducible refine gate_dst (N := 1) rfl ?_); refine bX_ (N := 1) (cs := #[.int .i64 a0_0, .int .i64 a0_1, .int .i64 a0_2, .int .i64 a0_3, .int .i64 a0_4, .string a0_5]) (t := 24) ?_; intro gb206 hg w5 hbox hb; replace BK206 := As_.mk (hbox); replace GW206 := As_.mk ((by rw [hg]; exact (bY_ (bl_ HB)) : w.heap.size ≤ gb206)); replace GE206 := As_.mk ((by rw [hg]; exact (bY_ (bl_ HB)) : w.heap.size ≤ gb206)); replace HB := As_.mk (bT_ (bl_ HB) hb); clear hb hbox hg; obtain ⟨hcz6_0, hcz6_1, hcz6_2, hcz6_3, hcz6_4, hcz6_5⟩ := cl6_ BK206.out; obtain ⟨hfz6_0, hfz6_1, hfz6_2, hfz6_3, hfz6_4, hfz6_5⟩ := fz6_ BK206.out) | ((with_reducible refine gC_ (f := 15) rfl ?_); refine gL_ (some 7) Try.func15 #[.int .i64 a0_0] rfl ?_; (with_reducible refine (r3_Form.calls a0_0 t207 _ A2.out).mono ?_); rintro e w7 ⟨rfl, hb⟩; refine ⟨_, rfl, ?_⟩; replace BK206 := As_.mk (kB_ (rB_ BK206) hb); replace HB := As_.mk (bT_ (bs_ HB GE206) hb)) | ((with_reducible refine gC_ (f := 17) rfl ?_); refine gL_ (some 9) Try.func17 #[.int .i64 t207] rfl ?_; (with_reducible refine (r3_HasA.calls t207 t208 _ A3.out).mono ?_); rintro e w' ⟨rfl, ⟨nd, rfl⟩⟩; refine ⟨_, rfl, ?_⟩))
 (try simp only [Act.put, List.setIfInBounds_toArray, List.set_cons_zero, List.set_cons_succ])
 go_cut [3] (fun v3 wc => ∃ (kq : Nat) (x3_3 : List Int), As_ (r3_Reads.j0 kq x3_3 t207 a0_0 a0_1 a0_2 a0_3 a0_4 a0_5 = some r) ∧ As_ (kq ≤ k) ∧ As_ (Kd.R (Kd.int .i64) 3 wc w.heap.size (fun _ => True) v3 x3_3) ∧ As_ (wc.heap[gb206]? = some (.cells #[.int .i64 a0_0, .int .i64 a0_1, .int .i64 a0_2, .int .i64 a0_3, .int .i64 a0_4, .string a0_5] 24 (0, 0))) ∧ As_ (Below w.heap.size w wc))
 case first =>
  have H := HC4.out
  clear HC4
  by_cases c8 : t208 = true
  ·subst c8
   rw [if_pos rfl] at H
   by_cases c9 : ([] : List Int).length < 17592186044416
   ·rw [if_pos c9] at H
    have LMc9 := As_.mk c9
    clear c9
    obtain ⟨y209, hy209⟩ : ∃ y_ : List Int, y_ = (([] : List Int) ++ [a0_2]) := ⟨_, rfl⟩
    replace H : (r3_Reads.j0 k y209 t207 a0_0 a0_1 a0_2 a0_3 a0_4 a0_5) = some r := by first | (rw [hy209]; with_reducible exact H) | (have H2_ := (Option.bind_some _ _).symm.trans H; rw [hy209]; with_reducible exact H2_) | (have H2_ := (Option.bind_some _ _).symm.trans H; with_reducible exact H2_) | with_reducible exact H | (rw [hy209]; exact H) | exact H
    have Ny209 := As_.mk hy209
    clear hy209
    have H' := As_.mk H
    clear H
    obtain ⟨hcz10_0, hcz10_1, hcz10_2, hcz10_3, hcz10_4, hcz10_5⟩ := cl6_ BK206.out
    obtain ⟨hfz10_0, hfz10_1, hfz10_2, hfz10_3, hfz10_4, hfz10_5⟩ := fz6_ BK206.out
    go_wp2_with (first | ((with_reducible refine gate_builtin (b := .append) (xs := #[.tmp 10, .tmp 13]) rfl ?_); at_builtin; refine Kd.R_append (Kd.int .i64) (w0 := w) w.heap.size rfl (.tmp 10) (.tmp 13) 25 3 (.int .i64 0) 8 rfl Try.underlying25 info3 rfl (by decide) (by omega) (.slice none 0 0) ([] : List Int) a0_2 [.int .i64 a0_2] (fun _ => True) (fun _ => False) rfl rfl ?aP (fun _ hk => hk.elim) ?aF ?aO ?aB ?aS ?aL ?_; (case aP => exact rfl); (case aB => exact (bs_ HB GE206)); (case aF => exact (fun _ _ => trivial)); (case aO => exact ((Kd.R_nil _ _ _ _ (fun _ => True)))); (case aS => exact (bY_ (bs_ HB GE206))); (case aL => have := LMc9.out; omega); intro v210 w11 ho hb hg hat; rw [← Ny209.out] at ho; replace BK206 := As_.mk (blk_grown (g := gb206) (o := .cells #[.int .i64 a0_0, .int .i64 a0_1, .int .i64 a0_2, .int .i64 a0_3, .int .i64 a0_4, .string a0_5] 24 (0, 0)) (rB_ BK206) hg (by simp [Value.ownBlock])); replace HB := As_.mk (hb); replace HO211 := As_.mk (ho); clear ho hb hg hat))
    go_meet
    case rel => exact ⟨_, (y209), H', ⟨by first | omega | exact Nat.le_refl _⟩, ⟨rR_ HO211⟩, ⟨rB_ BK206⟩, ⟨bs_ HB GE206⟩⟩
   rw [if_neg c9] at H
   exact absurd H (by simp)
  replace c8 := eF_ c8
  subst c8
  rw [if_neg Bool.false_ne_true] at H
  have H' := As_.mk H
  clear H
  go_wp2
  go_meet
  case rel => exact ⟨_, (([] : List Int)), H', ⟨by first | omega | exact Nat.le_refl _⟩, ⟨by first | exact Kd.R_nil _ _ _ _ _ | exact Kd.N_nil _ _ _ _ _ | exact Kd.V_nil _ _ _ _ _ | exact Kd.Q_nil _ _ _ _ _ | exact Kd.S_nil _ _ _ _ _⟩, ⟨rB_ BK206⟩, ⟨bs_ HB GE206⟩⟩
 case rest =>
  clear HC4
  obtain ⟨kq, x3_3, HA, HJ3, HO_3, BK206, HB⟩ := hcut
  cases kq with
  | zero => exact absurd HA.out (by simp [r3_Reads.j0])
  | succ kj3 =>
   have H := HA.out
   clear HA
   simp only [r3_Reads.j0] at H
   replace H := oB_ H
   obtain ⟨t212, A120, H⟩ := H
   have A12 := As_.mk A120
   clear A120
   by_cases c13 : t212 = true
   ·subst c13
    rw [if_pos rfl] at H
    by_cases c14 : x3_3.length < 17592186044416
    ·rw [if_pos c14] at H
     have LMc14 := As_.mk c14
     clear c14
     obtain ⟨y213, hy213⟩ : ∃ y_ : List Int, y_ = (x3_3 ++ [a0_3]) := ⟨_, rfl⟩
     replace H : (some y213) = some r := by first | (rw [hy213]; with_reducible exact H) | (have H2_ := (Option.bind_some _ _).symm.trans H; rw [hy213]; with_reducible exact H2_) | (have H2_ := (Option.bind_some _ _).symm.trans H; with_reducible exact H2_) | with_reducible exact H | (rw [hy213]; exact H) | exact H
     have Ny213 := As_.mk hy213
     clear hy213
     obtain rfl := oI_ H
     go_wp2_with (first | ((with_reducible refine gC_ (f := 18) rfl ?_); refine gL_ (some 16) Try.func18 #[.int .i64 t207] rfl ?_; (with_reducible refine (r3_HasB.calls t207 true _ A12.out).mono ?_); rintro e w' ⟨rfl, ⟨nd, rfl⟩⟩; refine ⟨_, rfl, ?_⟩; obtain ⟨hcz15_0, hcz15_1, hcz15_2, hcz15_3, hcz15_4, hcz15_5⟩ := cl6_ BK206.out; obtain ⟨hfz15_0, hfz15_1, hfz15_2, hfz15_3, hfz15_4, hfz15_5⟩ := fz6_ BK206.out) | ((with_reducible refine gate_builtin (b := .append) (xs := #[.tmp 17, .tmp 20]) rfl ?_); at_builtin; refine Kd.R_append (Kd.int .i64) (w0 := w) w.heap.size rfl (.tmp 17) (.tmp 20) 25 3 (.int .i64 0) 8 rfl Try.underlying25 info3 rfl (by decide) (by omega) u3 x3_3 a0_3 [.int .i64 a0_3] (fun _ => True) (fun _ => False) rfl rfl ?aP (fun _ hk => hk.elim) ?aF ?aO ?aB ?aS ?aL ?_; (case aP => exact rfl); (case aB => exact (bs_ HB GE206)); (case aF => exact (fun _ _ => trivial)); (case aO => exact (rR_ HO_3)); (case aS => exact (bY_ (bs_ HB GE206))); (case aL => have := LMc14.out; omega); intro v214 w16 ho hb hg hat; rw [← Ny213.out] at ho; replace BK206 := As_.mk (blk_grown (g := gb206) (o := .cells #[.int .i64 a0_0, .int .i64 a0_1, .int .i64 a0_2, .int .i64 a0_3, .int .i64 a0_4, .string a0_5] 24 (0, 0)) (rB_ BK206) hg (Kd.R_ne HO_3.out BK206.out (by decide))); replace HB := As_.mk (hb); replace HO215 := As_.mk (ho); clear HO_3; clear ho hb hg hat))
     go_ret
     exact ⟨_, by first | rfl | (simp [eN_, eS_] <;> rfl) | (simp [*, eN_, eS_] <;> rfl), rR_ HO215, bs_ HB GE206⟩
    rw [if_neg c14] at H
    exact absurd H (by simp)
   replace c13 := eF_ c13
   subst c13
   rw [if_neg Bool.false_ne_true] at H
   obtain rfl := oI_ H
   go_wp2_with (first | ((with_reducible refine gC_ (f := 18) rfl ?_); refine gL_ (some 16) Try.func18 #[.int .i64 t207] rfl ?_; (with_reducible refine (r3_HasB.calls t207 false _ A12.out).mono ?_); rintro e w' ⟨rfl, ⟨nd, rfl⟩⟩; refine ⟨_, rfl, ?_⟩))
   go_ret
   exact ⟨_, by first | rfl | (simp [eN_, eS_] <;> rfl) | (simp [*, eN_, eS_] <;> rfl), rR_ HO_3, bs_ HB GE206⟩
end Go.Proofs.Ytibfkkjkahpobaa.PDag
end
