-- the texts that this claim needs, out of this session's and its print's (wip/shrink.py)
import Derived.Test.YtfnchdlgkkdegaaPAllx0T
import Derived.Test.YtfnchdlgkkdegaaPAllx2T
import Derived.Test.YtfnchdlgkkdegaaPAllx14T
namespace Go.Proofs.Ytfnchdlgkkdegaa.PAll
open Go.RowKit Go.Proofs.YtfnchdlgkkdegaaW.PrintWords Go.Proofs.YtfnchdlgkkdegaaW.PrintLast Go.Proofs.YtfnchdlgkkdegaaW.PrintMore
attribute [local go_sem] max2_int min2_int max_two min_two max_three min_three max_four min_four   -- for this text's walks alone
set_option linter.unusedVariables false
set_option linter.unusedSimpArgs false
mutual
def isa_May.j0 : Nat → Int → Int → Bool → Option (Bool)
  | 0, _, _, _ => none
  | k + 1, x0, x1, x15 => if x15 = true then (some false) else (if x0 = 0 then (some true) else (if x0 = 14 then (isa_May.j1 k x0 x1 x0 (x0 == 14)) else (if x0 = 15 then (isa_May.j1 k x0 x1 x0 (x0 == 15)) else (if x0 = 16 then (isa_May.j1 k x0 x1 x0 (x0 == 16)) else (if x0 = 17 then (isa_May.j1 k x0 x1 x0 (x0 == 17)) else (isa_May.j1 k x0 x1 x0 (x0 == 20)))))))
def isa_May.j1 : Nat → Int → Int → Int → Bool → Option (Bool)
  | 0, _, _, _, _ => none
  | k + 1, x0, x1, x16, x19 => if x19 = true then (some (x1 == 3)) else (if x16 = 18 then (isa_May.j2 k x0 x1 x16 (x16 == 18)) else (if x16 = 19 then (isa_May.j2 k x0 x1 x16 (x16 == 19)) else (isa_May.j2 k x0 x1 x16 (x16 == 21))))
def isa_May.j2 : Nat → Int → Int → Int → Bool → Option (Bool)
  | 0, _, _, _, _ => none
  | k + 1, x0, x1, x16, x27 => if x27 = true then (some (x1 == 1)) else (if x16 = 24 then (isa_May.j3 k x0 x1 (x16 == 24)) else (if x16 = 25 then (isa_May.j3 k x0 x1 (x16 == 25)) else (if x16 = 26 then (isa_May.j3 k x0 x1 (x16 == 26)) else (isa_May.j3 k x0 x1 (x16 == 27)))))
def isa_May.j3 : Nat → Int → Int → Bool → Option (Bool)
  | 0, _, _, _ => none
  | k + 1, x0, x1, x33 => if x33 = true then (some (x1 == 2)) else (if x1 = 0 then (some true) else (if x1 = 1 then ((isa_Ends.f x0).bind fun t285 => (some (!t285))) else (some false)))
end
def isa_May.f (k : Nat) (a0 : Int) (a1 : Int) : Option (Bool) := (isa_Is.f a0).bind fun t284 => (if t284 = true then (if a1 < 0 then (isa_May.j0 k a0 a1 true) else (isa_May.j0 k a0 a1 (decide (a1 > 3)))) else (isa_May.j0 k a0 a1 true))
theorem isa_May.mono_l : ∀ k, (∀ y0 y1 y2, LeO (isa_May.j0 k y0 y1 y2) (isa_May.j0 (k + 1) y0 y1 y2)) ∧ (∀ y0 y1 y2 y3, LeO (isa_May.j1 k y0 y1 y2 y3) (isa_May.j1 (k + 1) y0 y1 y2 y3)) ∧ (∀ y0 y1 y2 y3, LeO (isa_May.j2 k y0 y1 y2 y3) (isa_May.j2 (k + 1) y0 y1 y2 y3)) ∧ (∀ y0 y1 y2, LeO (isa_May.j3 k y0 y1 y2) (isa_May.j3 (k + 1) y0 y1 y2))
  | 0 => ⟨fun _ _ _ r h => by simp [isa_May.j0] at h, fun _ _ _ _ r h => by simp [isa_May.j1] at h, fun _ _ _ _ r h => by simp [isa_May.j2] at h, fun _ _ _ r h => by simp [isa_May.j3] at h⟩
  | k + 1 => by
    obtain ⟨ih0, ih1, ih2, ih3⟩ := isa_May.mono_l k
    refine ⟨?_, ?_, ?_, ?_⟩
    · intro y0 y1 y2
      unfold isa_May.j0
      repeat' first
      | (with_reducible exact ih0 _ _ _)
      | (with_reducible exact ih1 _ _ _ _)
      | (with_reducible exact ih2 _ _ _ _)
      | (with_reducible exact ih3 _ _ _)
      | (with_reducible exact LeO.refl _)
      | (with_reducible exact LeO.none _)
      | (with_reducible refine LeO.ite ?_ ?_)
      | (with_reducible refine LeO.bind ?_ (fun _ => ?_))
      | exact LeO.none _
      | refine LeO.ite ?_ ?_
      | refine LeO.bind ?_ (fun _ => ?_)
    · intro y0 y1 y2 y3
      unfold isa_May.j1
      repeat' first
      | (with_reducible exact ih0 _ _ _)
      | (with_reducible exact ih1 _ _ _ _)
      | (with_reducible exact ih2 _ _ _ _)
      | (with_reducible exact ih3 _ _ _)
      | (with_reducible exact LeO.refl _)
      | (with_reducible exact LeO.none _)
      | (with_reducible refine LeO.ite ?_ ?_)
      | (with_reducible refine LeO.bind ?_ (fun _ => ?_))
      | exact LeO.none _
      | refine LeO.ite ?_ ?_
      | refine LeO.bind ?_ (fun _ => ?_)
    · intro y0 y1 y2 y3
      unfold isa_May.j2
      repeat' first
      | (with_reducible exact ih0 _ _ _)
      | (with_reducible exact ih1 _ _ _ _)
      | (with_reducible exact ih2 _ _ _ _)
      | (with_reducible exact ih3 _ _ _)
      | (with_reducible exact LeO.refl _)
      | (with_reducible exact LeO.none _)
      | (with_reducible refine LeO.ite ?_ ?_)
      | (with_reducible refine LeO.bind ?_ (fun _ => ?_))
      | exact LeO.none _
      | refine LeO.ite ?_ ?_
      | refine LeO.bind ?_ (fun _ => ?_)
    · intro y0 y1 y2
      unfold isa_May.j3
      repeat' first
      | (with_reducible exact ih0 _ _ _)
      | (with_reducible exact ih1 _ _ _ _)
      | (with_reducible exact ih2 _ _ _ _)
      | (with_reducible exact ih3 _ _ _)
      | (with_reducible exact LeO.refl _)
      | (with_reducible exact LeO.none _)
      | (with_reducible refine LeO.ite ?_ ?_)
      | (with_reducible refine LeO.bind ?_ (fun _ => ?_))
      | exact LeO.none _
      | refine LeO.ite ?_ ?_
      | refine LeO.bind ?_ (fun _ => ?_)
theorem isa_May.mono : ∀ a0 a1 k, LeO (isa_May.f k a0 a1) (isa_May.f (k + 1) a0 a1) := by
 intro a0 a1 k
 obtain ⟨ih0, ih1, ih2, ih3⟩ := isa_May.mono_l k
 unfold isa_May.f
 repeat' first
  | (with_reducible exact ih0 _ _ _)
  | (with_reducible exact ih1 _ _ _ _)
  | (with_reducible exact ih2 _ _ _ _)
  | (with_reducible exact ih3 _ _ _)
  | (with_reducible exact LeO.refl _)
  | (with_reducible exact LeO.none _)
  | (with_reducible refine LeO.ite ?_ ?_)
  | (with_reducible refine LeO.bind ?_ (fun _ => ?_))
  | exact LeO.none _
  | refine LeO.ite ?_ ?_
  | refine LeO.bind ?_ (fun _ => ?_)
set_option maxHeartbeats 8000000 in
set_option maxRecDepth 100000 in
theorem isa_May.calls (k : Nat) (a0 : Int) (a1 : Int) (r : Bool) (w : World) (h : isa_May.f k a0 a1 = some r) :
    Calls Try.prog 45 #[.int .i64 a0, .int .i64 a1] w fun e w' => e = .returned (.bool r) ∧ Dr_ w w' := by
 have H : ((isa_Is.f a0).bind fun t284 => (if t284 = true then (if a1 < 0 then (isa_May.j0 k a0 a1 true) else (isa_May.j0 k a0 a1 (decide (a1 > 3)))) else (isa_May.j0 k a0 a1 true))) = some r := h
 clear h
 have HC3 := As_.mk H
 clear H
 go_enter Try.func45, Try.ntmps45
 go_upto_region 1 with (fail)
 go_cut [15] (fun v15 wc => ∃ (kq : Nat) (x15_2 : Bool), v15 = .bool x15_2 ∧ As_ (isa_May.j0 kq a0 a1 x15_2 = some r) ∧ As_ (kq ≤ k) ∧ Dr_ w wc)
 case first =>
  have H := HC3.out
  clear HC3
  replace H := Option.bind_eq_some_iff.mp H
  obtain ⟨t284, A40, H⟩ := H
  replace H : (if t284 = true then (if a1 < 0 then (isa_May.j0 k a0 a1 true) else (isa_May.j0 k a0 a1 (decide (a1 > 3)))) else (isa_May.j0 k a0 a1 true)) = some r := H
  have A4 := As_.mk A40
  clear A40
  by_cases c5 : t284 = true
  ·subst c5
   have H1 : (if a1 < 0 then (isa_May.j0 k a0 a1 true) else (isa_May.j0 k a0 a1 (decide (a1 > 3)))) = some r := by rw [if_pos rfl] at H; exact H
   clear H
   have H := H1
   clear H1
   by_cases c6 : a1 < 0
   ·rw [if_pos c6] at H
    have c6b0 : decide (a1 < 0) = true := decide_eq_true c6
    clear c6
    (first | rw [c6b0] | (simp only [i64_w, i32_w]; rw [c6b0]) | skip)
    have H' := As_.mk H
    clear H
    go_wp2_with (first | ((with_reducible refine gC_ (f := 35) rfl ?_); refine goesL_ (some 6) rfl rfl Try.func35 (by kernel_rfl) rfl #[.int .i64 a0] rfl (by (try simp only [List.map_toArray, List.map_cons, List.map_nil]); first | done | rfl) ?_; (with_reducible refine (isa_Is.calls a0 true _ A4.out).mono ?_); rintro e w' ⟨rfl, ⟨nd, rfl⟩⟩; refine ⟨_, rfl, ?_⟩))
    go_meet
    case rel => exact ⟨_, (true), (by first | rfl | (simp; done) | (simp [*]; done) | (simp [wrap64]; done) | (congr 1; rw [Bool.eq_iff_iff]; simp; done)), H', ⟨by first | omega | exact Nat.le_refl _⟩, by repeat (first | exact Dr_.refl _ | apply Dr_.step)⟩
   rw [if_neg c6] at H
   have c6b0 : decide (a1 < 0) = false := decide_eq_false c6
   clear c6
   (first | rw [c6b0] | (simp only [i64_w, i32_w]; rw [c6b0]) | skip)
   have H' := As_.mk H
   clear H
   go_wp2_with (first | ((with_reducible refine gC_ (f := 35) rfl ?_); refine goesL_ (some 6) rfl rfl Try.func35 (by kernel_rfl) rfl #[.int .i64 a0] rfl (by (try simp only [List.map_toArray, List.map_cons, List.map_nil]); first | done | rfl) ?_; (with_reducible refine (isa_Is.calls a0 true _ A4.out).mono ?_); rintro e w' ⟨rfl, ⟨nd, rfl⟩⟩; refine ⟨_, rfl, ?_⟩))
   go_meet
   case rel => exact ⟨_, (decide (a1 > 3)), (by first | rfl | (simp; done) | (simp [*]; done) | (simp [wrap64]; done) | (congr 1; rw [Bool.eq_iff_iff]; simp; done)), H', ⟨by first | omega | exact Nat.le_refl _⟩, by repeat (first | exact Dr_.refl _ | apply Dr_.step)⟩
  replace c5 := Bool.eq_false_iff.mpr c5
  subst c5
  have H1 : (isa_May.j0 k a0 a1 true) = some r := by rw [if_neg (show ¬ (false = true) by decide)] at H; exact H
  clear H
  have H := H1
  clear H1
  have H' := As_.mk H
  clear H
  go_wp2_with (first | ((with_reducible refine gC_ (f := 35) rfl ?_); refine goesL_ (some 6) rfl rfl Try.func35 (by kernel_rfl) rfl #[.int .i64 a0] rfl (by (try simp only [List.map_toArray, List.map_cons, List.map_nil]); first | done | rfl) ?_; (with_reducible refine (isa_Is.calls a0 false _ A4.out).mono ?_); rintro e w' ⟨rfl, ⟨nd, rfl⟩⟩; refine ⟨_, rfl, ?_⟩))
  go_meet
  case rel => exact ⟨_, (true), (by first | rfl | (simp; done) | (simp [*]; done) | (simp [wrap64]; done) | (congr 1; rw [Bool.eq_iff_iff]; simp; done)), H', ⟨by first | omega | exact Nat.le_refl _⟩, by repeat (first | exact Dr_.refl _ | apply Dr_.step)⟩
 case rest =>
  clear HC3
  obtain ⟨kq, x15_2, rfl, HA, HJ2, ⟨mc2, rfl⟩⟩ := hcut
  cases kq with
  | zero => exact absurd HA.out (by simp [isa_May.j0])
  | succ kj2 =>
   have H := HA.out
   clear HA
   simp only [isa_May.j0] at H
   by_cases c7 : x15_2 = true
   ·subst c7
    have H1 : (some false) = some r := by rw [if_pos rfl] at H; exact H
    clear H
    have H := H1
    clear H1
    obtain rfl := Option.some.inj H
    go_wp2
    go_ret
    exact ⟨by first | rfl | (simp; done) | (simp [*]; done) | (simp [wrap64]; done) | (congr 1; rw [Bool.eq_iff_iff]; simp; done), by repeat (first | exact Dr_.refl _ | apply Dr_.step)⟩
   replace c7 := Bool.eq_false_iff.mpr c7
   subst c7
   have H1 : (if a0 = 0 then (some true) else (if a0 = 14 then (isa_May.j1 kj2 a0 a1 a0 (a0 == 14)) else (if a0 = 15 then (isa_May.j1 kj2 a0 a1 a0 (a0 == 15)) else (if a0 = 16 then (isa_May.j1 kj2 a0 a1 a0 (a0 == 16)) else (if a0 = 17 then (isa_May.j1 kj2 a0 a1 a0 (a0 == 17)) else (isa_May.j1 kj2 a0 a1 a0 (a0 == 20))))))) = some r := by rw [if_neg (show ¬ (false = true) by decide)] at H; exact H
   clear H
   have H := H1
   clear H1
   by_cases c8 : a0 = 0
   ·rw [if_pos c8] at H
    have c8b0 : (a0 == 0) = true := beq_iff_eq.mpr c8
    have c8b1 : (a0 != 0) = false := bne_eq_false_iff_eq.mpr c8
    clear c8
    obtain rfl := Option.some.inj H
    go_wp2
    go_ret
    exact ⟨by first | rfl | (simp; done) | (simp [*]; done) | (simp [wrap64]; done) | (congr 1; rw [Bool.eq_iff_iff]; simp; done), by repeat (first | exact Dr_.refl _ | apply Dr_.step)⟩
   rw [if_neg c8] at H
   have c8b0 : (a0 == 0) = false := beq_eq_false_iff_ne.mpr c8
   have c8b1 : (a0 != 0) = true := bne_iff_ne.mpr c8
   have HC9 := As_.mk H
   clear H
   go_upto_if 19 with (fail)
   go_cut [19] (fun v19 wc => ∃ (kq : Nat) (x19_8 : Bool), v19 = .bool x19_8 ∧ As_ (isa_May.j1 kq a0 a1 a0 x19_8 = some r) ∧ As_ (kq ≤ kj2) ∧ Dr_ w wc)
   case first =>
    have H := HC9.out
    clear HC9
    by_cases c10 : a0 = 14
    ·rw [if_pos c10] at H
     have c10b0 : (a0 == 14) = true := beq_iff_eq.mpr c10
     have c10b1 : (a0 != 14) = false := bne_eq_false_iff_eq.mpr c10
     clear c10
     (first | rw [c10b0] | (simp only [i64_w, i32_w]; rw [c10b0]) | skip)
     have H' := As_.mk H
     clear H
     go_wp2
     go_meet
     case rel => exact ⟨_, ((a0 == 14)), (by first | rfl | (simp; done) | (simp [*]; done) | (simp [wrap64]; done) | (congr 1; rw [Bool.eq_iff_iff]; simp; done)), H', ⟨by have := HJ2.out; first | omega | exact Nat.le_refl _⟩, by repeat (first | exact Dr_.refl _ | apply Dr_.step)⟩
    rw [if_neg c10] at H
    have c10b0 : (a0 == 14) = false := beq_eq_false_iff_ne.mpr c10
    have c10b1 : (a0 != 14) = true := bne_iff_ne.mpr c10
    (first | rw [c10b0] | (simp only [i64_w, i32_w]; rw [c10b0]) | skip)
    by_cases c11 : a0 = 15
    ·rw [if_pos c11] at H
     have c11b0 : (a0 == 15) = true := beq_iff_eq.mpr c11
     have c11b1 : (a0 != 15) = false := bne_eq_false_iff_eq.mpr c11
     clear c11
     have H' := As_.mk H
     clear H
     go_wp2
     go_meet
     case rel => exact ⟨_, ((a0 == 15)), (by first | rfl | (simp; done) | (simp [*]; done) | (simp [wrap64]; done) | (congr 1; rw [Bool.eq_iff_iff]; simp; done)), H', ⟨by have := HJ2.out; first | omega | exact Nat.le_refl _⟩, by repeat (first | exact Dr_.refl _ | apply Dr_.step)⟩
    rw [if_neg c11] at H
    have c11b0 : (a0 == 15) = false := beq_eq_false_iff_ne.mpr c11
    have c11b1 : (a0 != 15) = true := bne_iff_ne.mpr c11
    by_cases c12 : a0 = 16
    ·rw [if_pos c12] at H
     have c12b0 : (a0 == 16) = true := beq_iff_eq.mpr c12
     have c12b1 : (a0 != 16) = false := bne_eq_false_iff_eq.mpr c12
     clear c12
     have H' := As_.mk H
     clear H
     go_wp2
     go_meet
     case rel => exact ⟨_, ((a0 == 16)), (by first | rfl | (simp; done) | (simp [*]; done) | (simp [wrap64]; done) | (congr 1; rw [Bool.eq_iff_iff]; simp; done)), H', ⟨by have := HJ2.out; first | omega | exact Nat.le_refl _⟩, by repeat (first | exact Dr_.refl _ | apply Dr_.step)⟩
    rw [if_neg c12] at H
    have c12b0 : (a0 == 16) = false := beq_eq_false_iff_ne.mpr c12
    have c12b1 : (a0 != 16) = true := bne_iff_ne.mpr c12
    by_cases c13 : a0 = 17
    ·rw [if_pos c13] at H
     have c13b0 : (a0 == 17) = true := beq_iff_eq.mpr c13
     have c13b1 : (a0 != 17) = false := bne_eq_false_iff_eq.mpr c13
     clear c13
     have H' := As_.mk H
     clear H
     go_wp2
     go_meet
     case rel => exact ⟨_, ((a0 == 17)), (by first | rfl | (simp; done) | (simp [*]; done) | (simp [wrap64]; done) | (congr 1; rw [Bool.eq_iff_iff]; simp; done)), H', ⟨by have := HJ2.out; first | omega | exact Nat.le_refl _⟩, by repeat (first | exact Dr_.refl _ | apply Dr_.step)⟩
    rw [if_neg c13] at H
    have c13b0 : (a0 == 17) = false := beq_eq_false_iff_ne.mpr c13
    have c13b1 : (a0 != 17) = true := bne_iff_ne.mpr c13
    have H' := As_.mk H
    clear H
    go_wp2
    go_meet
    case rel => exact ⟨_, ((a0 == 20)), (by first | rfl | (simp; done) | (simp [*]; done) | (simp [wrap64]; done) | (congr 1; rw [Bool.eq_iff_iff]; simp; done)), H', ⟨by have := HJ2.out; first | omega | exact Nat.le_refl _⟩, by repeat (first | exact Dr_.refl _ | apply Dr_.step)⟩
   case rest =>
    clear HC9
    obtain ⟨kq, x19_8, rfl, HA, HJ8, ⟨mc8, rfl⟩⟩ := hcut
    cases kq with
    | zero => exact absurd HA.out (by simp [isa_May.j1])
    | succ kj8 =>
     have H := HA.out
     clear HA
     simp only [isa_May.j1] at H
     by_cases c14 : x19_8 = true
     ·subst c14
      have H1 : (some (a1 == 3)) = some r := by rw [if_pos rfl] at H; exact H
      clear H
      have H := H1
      clear H1
      obtain rfl := Option.some.inj H
      go_wp2
      go_ret
      exact ⟨by first | rfl | (simp; done) | (simp [*]; done) | (simp [wrap64]; done) | (congr 1; rw [Bool.eq_iff_iff]; simp; done), by repeat (first | exact Dr_.refl _ | apply Dr_.step)⟩
     replace c14 := Bool.eq_false_iff.mpr c14
     subst c14
     have H1 : (if a0 = 18 then (isa_May.j2 kj8 a0 a1 a0 (a0 == 18)) else (if a0 = 19 then (isa_May.j2 kj8 a0 a1 a0 (a0 == 19)) else (isa_May.j2 kj8 a0 a1 a0 (a0 == 21)))) = some r := by rw [if_neg (show ¬ (false = true) by decide)] at H; exact H
     clear H
     have H := H1
     clear H1
     have HC15 := As_.mk H
     clear H
     go_upto_if 27 with (fail)
     go_cut [27] (fun v27 wc => ∃ (kq : Nat) (x27_14 : Bool), v27 = .bool x27_14 ∧ As_ (isa_May.j2 kq a0 a1 a0 x27_14 = some r) ∧ As_ (kq ≤ kj8) ∧ Dr_ w wc)
     case first =>
      have H := HC15.out
      clear HC15
      by_cases c16 : a0 = 18
      ·rw [if_pos c16] at H
       have c16b0 : (a0 == 18) = true := beq_iff_eq.mpr c16
       have c16b1 : (a0 != 18) = false := bne_eq_false_iff_eq.mpr c16
       clear c16
       (first | rw [c16b0] | (simp only [i64_w, i32_w]; rw [c16b0]) | skip)
       have H' := As_.mk H
       clear H
       go_wp2
       go_meet
       case rel => exact ⟨_, ((a0 == 18)), (by first | rfl | (simp; done) | (simp [*]; done) | (simp [wrap64]; done) | (congr 1; rw [Bool.eq_iff_iff]; simp; done)), H', ⟨by have := HJ2.out; have := HJ8.out; first | omega | exact Nat.le_refl _⟩, by repeat (first | exact Dr_.refl _ | apply Dr_.step)⟩
      rw [if_neg c16] at H
      have c16b0 : (a0 == 18) = false := beq_eq_false_iff_ne.mpr c16
      have c16b1 : (a0 != 18) = true := bne_iff_ne.mpr c16
      (first | rw [c16b0] | (simp only [i64_w, i32_w]; rw [c16b0]) | skip)
      by_cases c17 : a0 = 19
      ·rw [if_pos c17] at H
       have c17b0 : (a0 == 19) = true := beq_iff_eq.mpr c17
       have c17b1 : (a0 != 19) = false := bne_eq_false_iff_eq.mpr c17
       clear c17
       have H' := As_.mk H
       clear H
       go_wp2
       go_meet
       case rel => exact ⟨_, ((a0 == 19)), (by first | rfl | (simp; done) | (simp [*]; done) | (simp [wrap64]; done) | (congr 1; rw [Bool.eq_iff_iff]; simp; done)), H', ⟨by have := HJ2.out; have := HJ8.out; first | omega | exact Nat.le_refl _⟩, by repeat (first | exact Dr_.refl _ | apply Dr_.step)⟩
      rw [if_neg c17] at H
      have c17b0 : (a0 == 19) = false := beq_eq_false_iff_ne.mpr c17
      have c17b1 : (a0 != 19) = true := bne_iff_ne.mpr c17
      have H' := As_.mk H
      clear H
      go_wp2
      go_meet
      case rel => exact ⟨_, ((a0 == 21)), (by first | rfl | (simp; done) | (simp [*]; done) | (simp [wrap64]; done) | (congr 1; rw [Bool.eq_iff_iff]; simp; done)), H', ⟨by have := HJ2.out; have := HJ8.out; first | omega | exact Nat.le_refl _⟩, by repeat (first | exact Dr_.refl _ | apply Dr_.step)⟩
     case rest =>
      clear HC15
      obtain ⟨kq, x27_14, rfl, HA, HJ14, ⟨mc14, rfl⟩⟩ := hcut
      cases kq with
      | zero => exact absurd HA.out (by simp [isa_May.j2])
      | succ kj14 =>
       have H := HA.out
       clear HA
       simp only [isa_May.j2] at H
       by_cases c18 : x27_14 = true
       ·subst c18
        have H1 : (some (a1 == 1)) = some r := by rw [if_pos rfl] at H; exact H
        clear H
        have H := H1
        clear H1
        obtain rfl := Option.some.inj H
        go_wp2
        go_ret
        exact ⟨by first | rfl | (simp; done) | (simp [*]; done) | (simp [wrap64]; done) | (congr 1; rw [Bool.eq_iff_iff]; simp; done), by repeat (first | exact Dr_.refl _ | apply Dr_.step)⟩
       replace c18 := Bool.eq_false_iff.mpr c18
       subst c18
       have H1 : (if a0 = 24 then (isa_May.j3 kj14 a0 a1 (a0 == 24)) else (if a0 = 25 then (isa_May.j3 kj14 a0 a1 (a0 == 25)) else (if a0 = 26 then (isa_May.j3 kj14 a0 a1 (a0 == 26)) else (isa_May.j3 kj14 a0 a1 (a0 == 27))))) = some r := by rw [if_neg (show ¬ (false = true) by decide)] at H; exact H
       clear H
       have H := H1
       clear H1
       have HC19 := As_.mk H
       clear H
       go_upto_if 33 with (fail)
       go_cut [33] (fun v33 wc => ∃ (kq : Nat) (x33_18 : Bool), v33 = .bool x33_18 ∧ As_ (isa_May.j3 kq a0 a1 x33_18 = some r) ∧ As_ (kq ≤ kj14) ∧ Dr_ w wc)
       case first =>
        have H := HC19.out
        clear HC19
        by_cases c20 : a0 = 24
        ·rw [if_pos c20] at H
         have c20b0 : (a0 == 24) = true := beq_iff_eq.mpr c20
         have c20b1 : (a0 != 24) = false := bne_eq_false_iff_eq.mpr c20
         clear c20
         (first | rw [c20b0] | (simp only [i64_w, i32_w]; rw [c20b0]) | skip)
         have H' := As_.mk H
         clear H
         go_wp2
         go_meet
         case rel => exact ⟨_, ((a0 == 24)), (by first | rfl | (simp; done) | (simp [*]; done) | (simp [wrap64]; done) | (congr 1; rw [Bool.eq_iff_iff]; simp; done)), H', ⟨by have := HJ2.out; have := HJ8.out; have := HJ14.out; first | omega | exact Nat.le_refl _⟩, by repeat (first | exact Dr_.refl _ | apply Dr_.step)⟩
        rw [if_neg c20] at H
        have c20b0 : (a0 == 24) = false := beq_eq_false_iff_ne.mpr c20
        have c20b1 : (a0 != 24) = true := bne_iff_ne.mpr c20
        (first | rw [c20b0] | (simp only [i64_w, i32_w]; rw [c20b0]) | skip)
        by_cases c21 : a0 = 25
        ·rw [if_pos c21] at H
         have c21b0 : (a0 == 25) = true := beq_iff_eq.mpr c21
         have c21b1 : (a0 != 25) = false := bne_eq_false_iff_eq.mpr c21
         clear c21
         have H' := As_.mk H
         clear H
         go_wp2
         go_meet
         case rel => exact ⟨_, ((a0 == 25)), (by first | rfl | (simp; done) | (simp [*]; done) | (simp [wrap64]; done) | (congr 1; rw [Bool.eq_iff_iff]; simp; done)), H', ⟨by have := HJ2.out; have := HJ8.out; have := HJ14.out; first | omega | exact Nat.le_refl _⟩, by repeat (first | exact Dr_.refl _ | apply Dr_.step)⟩
        rw [if_neg c21] at H
        have c21b0 : (a0 == 25) = false := beq_eq_false_iff_ne.mpr c21
        have c21b1 : (a0 != 25) = true := bne_iff_ne.mpr c21
        by_cases c22 : a0 = 26
        ·rw [if_pos c22] at H
         have c22b0 : (a0 == 26) = true := beq_iff_eq.mpr c22
         have c22b1 : (a0 != 26) = false := bne_eq_false_iff_eq.mpr c22
         clear c22
         have H' := As_.mk H
         clear H
         go_wp2
         go_meet
         case rel => exact ⟨_, ((a0 == 26)), (by first | rfl | (simp; done) | (simp [*]; done) | (simp [wrap64]; done) | (congr 1; rw [Bool.eq_iff_iff]; simp; done)), H', ⟨by have := HJ2.out; have := HJ8.out; have := HJ14.out; first | omega | exact Nat.le_refl _⟩, by repeat (first | exact Dr_.refl _ | apply Dr_.step)⟩
        rw [if_neg c22] at H
        have c22b0 : (a0 == 26) = false := beq_eq_false_iff_ne.mpr c22
        have c22b1 : (a0 != 26) = true := bne_iff_ne.mpr c22
        have H' := As_.mk H
        clear H
        go_wp2
        go_meet
        case rel => exact ⟨_, ((a0 == 27)), (by first | rfl | (simp; done) | (simp [*]; done) | (simp [wrap64]; done) | (congr 1; rw [Bool.eq_iff_iff]; simp; done)), H', ⟨by have := HJ2.out; have := HJ8.out; have := HJ14.out; first | omega | exact Nat.le_refl _⟩, by repeat (first | exact Dr_.refl _ | apply Dr_.step)⟩
       case rest =>
        clear HC19
        obtain ⟨kq, x33_18, rfl, HA, HJ18, ⟨mc18, rfl⟩⟩ := hcut
        cases kq with
        | zero => exact absurd HA.out (by simp [isa_May.j3])
        | succ kj18 =>
         have H := HA.out
         clear HA
         simp only [isa_May.j3] at H
         by_cases c23 : x33_18 = true
         ·subst c23
          have H1 : (some (a1 == 2)) = some r := by rw [if_pos rfl] at H; exact H
          clear H
          have H := H1
          clear H1
          obtain rfl := Option.some.inj H
          go_wp2
          go_ret
          exact ⟨by first | rfl | (simp; done) | (simp [*]; done) | (simp [wrap64]; done) | (congr 1; rw [Bool.eq_iff_iff]; simp; done), by repeat (first | exact Dr_.refl _ | apply Dr_.step)⟩
         replace c23 := Bool.eq_false_iff.mpr c23
         subst c23
         have H1 : (if a1 = 0 then (some true) else (if a1 = 1 then ((isa_Ends.f a0).bind fun t285 => (some (!t285))) else (some false))) = some r := by rw [if_neg (show ¬ (false = true) by decide)] at H; exact H
         clear H
         have H := H1
         clear H1
         by_cases c24 : a1 = 0
         ·rw [if_pos c24] at H
          have c24b0 : (a1 == 0) = true := beq_iff_eq.mpr c24
          have c24b1 : (a1 != 0) = false := bne_eq_false_iff_eq.mpr c24
          clear c24
          obtain rfl := Option.some.inj H
          go_wp2
          go_ret
          exact ⟨by first | rfl | (simp; done) | (simp [*]; done) | (simp [wrap64]; done) | (congr 1; rw [Bool.eq_iff_iff]; simp; done), by repeat (first | exact Dr_.refl _ | apply Dr_.step)⟩
         rw [if_neg c24] at H
         have c24b0 : (a1 == 0) = false := beq_eq_false_iff_ne.mpr c24
         have c24b1 : (a1 != 0) = true := bne_iff_ne.mpr c24
         by_cases c25 : a1 = 1
         ·rw [if_pos c25] at H
          have c25b0 : (a1 == 1) = true := beq_iff_eq.mpr c25
          have c25b1 : (a1 != 1) = false := bne_eq_false_iff_eq.mpr c25
          clear c25
          replace H := Option.bind_eq_some_iff.mp H
          obtain ⟨t285, A260, H⟩ := H
          replace H : (some (!t285)) = some r := H
          have A26 := As_.mk A260
          clear A260
          obtain rfl := Option.some.inj H
          go_wp2_with (first | (go_at_call 53; (with_reducible refine (isa_Ends.calls a0 t285 _ A26.out).mono ?_); rintro e w' ⟨rfl, ⟨nd, rfl⟩⟩))
          go_ret
          exact ⟨by first | rfl | (simp; done) | (simp [*]; done) | (simp [wrap64]; done) | (congr 1; rw [Bool.eq_iff_iff]; simp; done), by repeat (first | exact Dr_.refl _ | apply Dr_.step)⟩
         rw [if_neg c25] at H
         have c25b0 : (a1 == 1) = false := beq_eq_false_iff_ne.mpr c25
         have c25b1 : (a1 != 1) = true := bne_iff_ne.mpr c25
         obtain rfl := Option.some.inj H
         go_wp2
         go_ret
         exact ⟨by first | rfl | (simp; done) | (simp [*]; done) | (simp [wrap64]; done) | (congr 1; rw [Bool.eq_iff_iff]; simp; done), by repeat (first | exact Dr_.refl _ | apply Dr_.step)⟩
end Go.Proofs.Ytfnchdlgkkdegaa.PAll
