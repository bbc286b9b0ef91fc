import Derived.Test.YtibfkkjkahpobaaHd15
import Derived.Test.YtibfkkjkahpobaaHd20
import Derived.Test.YtibfkkjkahpobaaHd19
import Derived.Laws.BitsAllLaws
import Derived.Lib.Strings
set_option linter.unusedVariables false
set_option linter.unusedSimpArgs false
set_option maxHeartbeats 8000000
set_option maxRecDepth 100000
open Go.RowKit Go.Proofs.YtibfkkjkahpobaaW.PrintWords Go.Proofs.YtibfkkjkahpobaaW.PrintLast Go.Proofs.YtibfkkjkahpobaaW.PrintMore
namespace Go.Proofs.Ytibfkkjkahpobaa.PDag
section
attribute [local go_sem] max2_int min2_int max_two min_two max_three min_three max_four min_four
mutual
def r3_Name.j0 : Nat → ByteArray → Bool → Option (Bool)
  | 0, _, _ => none
  | k + 1, x0, x21 => if x21 = true then (some false) else (r3_Name.l0 k x0 0)
def r3_Name.l0 : Nat → ByteArray → Int → Option (Bool)
  | 0, _, _ => none
  | k + 1, x0, x3 => if x3 < (x0.size : Int) then (if 0 ≤ x3 then (if (bt x0 x3) ≥ 97 then (if (bt x0 x3) ≤ 122 then (r3_Name.j2 k x0 x3 (!true)) else (if (bt x0 x3) = 95 then (r3_Name.j2 k x0 x3 (!true)) else (if (bt x0 x3) ≥ 48 then (r3_Name.j2 k x0 x3 (!(decide ((bt x0 x3) ≤ 57)))) else (r3_Name.j2 k x0 x3 (!false))))) else (if (bt x0 x3) = 95 then (r3_Name.j2 k x0 x3 (!true)) else (if (bt x0 x3) ≥ 48 then (r3_Name.j2 k x0 x3 (!(decide ((bt x0 x3) ≤ 57)))) else (r3_Name.j2 k x0 x3 (!false))))) else (none)) else (some true)
def r3_Name.j2 : Nat → ByteArray → Int → Bool → Option (Bool)
  | 0, _, _, _ => none
  | k + 1, x0, x3, x56 => if x56 = true then (some false) else (r3_Name.l0 k x0 (wrap64 (x3 + 1)))
end
def r3_Name.f (k : Nat) (a0 : ByteArray) : Option (Bool) := if (a0.size : Int) = 0 then (r3_Name.j0 k a0 true) else (if (a0.size : Int) > 12 then (r3_Name.j0 k a0 true) else (if 0 < (a0.size : Int) then (if (bt a0 0) ≥ 48 then (r3_Name.j0 k a0 (decide ((bt a0 0) ≤ 57))) else (r3_Name.j0 k a0 false)) else (none)))
theorem r3_Name.calls (k : Nat) (a0 : ByteArray) (r : Bool) (w : World) (h : r3_Name.f k a0 = some r) :
    Calls Try.prog 68 #[.string a0] w fun e w' => e = .returned (.bool r) ∧ Dr_ w w' := by
 have H : (if (a0.size : Int) = 0 then (r3_Name.j0 k a0 true) else (if (a0.size : Int) > 12 then (r3_Name.j0 k a0 true) else (if 0 < (a0.size : Int) then (if (bt a0 0) ≥ 48 then (r3_Name.j0 k a0 (decide ((bt a0 0) ≤ 57))) else (r3_Name.j0 k a0 false)) else (none)))) = some r := h; clear h; have HC2 := aM_ H; clear H; go_enter Try.func68, Try.ntmps68
 go_upto_region 1 with (fail)
 go_cut [21] (fun v21 wc => ∃ (kq : Nat) (x21_1 : Bool), v21 = .bool x21_1 ∧ As_ (r3_Name.j0 kq a0 x21_1 = some r) ∧ As_ (kq ≤ k) ∧ Dr_ w wc)
 case first =>
  have H := HC2.out; clear HC2
  by_cases c3 : (a0.size : Int) = 0
  ·rw [if_pos c3] at H; have c3b0 := bH_ c3; have c3b1 := bF_ c3; clear c3
   (first | rw [c3b0] | (simp only [i64_w, i32_w]; rw [c3b0]) | skip)
   replace H := aM_ H; go_wp2
   go_meet
   case rel => exact ⟨_, (true), eQ_, H, ⟨by first | omega | exact Nat.le_refl _⟩, dR_⟩
  rw [if_neg c3] at H; have c3b0 := bE_ c3; have c3b1 := bG_ c3
  (first | rw [c3b0] | (simp only [i64_w, i32_w]; rw [c3b0]) | skip)
  by_cases c4 : (a0.size : Int) > 12
  ·rw [if_pos c4] at H; have c4b0 := dE_ c4; have c4b1 : decide (12 < a0.size) = true := decide_eq_true (by omega); clear c4; replace H := aM_ H; go_wp2
   go_meet
   case rel => exact ⟨_, (true), eQ_, H, ⟨by first | omega | exact Nat.le_refl _⟩, dR_⟩
  rw [if_neg c4] at H; have c4b0 := dF_ c4; have c4b1 : decide (12 < a0.size) = false := decide_eq_false (by omega); clear c4
  by_cases c5 : 0 < (a0.size : Int)
  ·rw [if_pos c5] at H; have c5b0 := dE_ c5; have c5b1 : decide (0 < a0.size) = true := decide_eq_true (by omega); clear c5
   by_cases c7 : (bt a0 0) ≥ 48
   ·rw [if_pos c7] at H; have c7b0 := dE_ c7; clear c7; replace H := aM_ H; have p6 : 0 ≤ (0 : Int) := (by omega)
    have q6 : 0 < a0.size := (by have : (0 : Int) < (a0.size : Int) := oD_; omega)
    have hx6 : ∀ h : 0 < a0.size, ((a0[0]'h).toNat : Int) = bt a0 0 := bt_at a0 0; clear p6; have qi6 : (0 < (a0.size : Int)) = True := eq_true (oD_); replace q6 := eq_true q6; have p8 : 0 ≤ (0 : Int) := (by omega)
    have q8 : 0 < a0.size := (by have : (0 : Int) < (a0.size : Int) := oD_; omega)
    have hx8 : ∀ h : 0 < a0.size, ((a0[0]'h).toNat : Int) = bt a0 0 := bt_at a0 0; clear p8; have qi8 : (0 < (a0.size : Int)) = True := eq_true (oD_); replace q8 := eq_true q8; go_wp2
    go_meet
    case rel => exact ⟨_, (decide ((bt a0 0) ≤ 57)), eQ_, H, ⟨by first | omega | exact Nat.le_refl _⟩, dR_⟩
   rw [if_neg c7] at H; have c7b0 := dF_ c7; clear c7; replace H := aM_ H; have p6 : 0 ≤ (0 : Int) := (by omega)
   have q6 : 0 < a0.size := (by have : (0 : Int) < (a0.size : Int) := oD_; omega)
   have hx6 : ∀ h : 0 < a0.size, ((a0[0]'h).toNat : Int) = bt a0 0 := bt_at a0 0; clear p6; have qi6 : (0 < (a0.size : Int)) = True := eq_true (oD_); replace q6 := eq_true q6; go_wp2
   go_meet
   case rel => exact ⟨_, (false), eQ_, H, ⟨by first | omega | exact Nat.le_refl _⟩, dR_⟩
  rw [if_neg c5] at H; exact absurd H (by simp)
 case rest =>
  clear HC2; obtain ⟨kq, x21_1, rfl, HA, HJ1, ⟨mc1, rfl⟩⟩ := hcut
  cases kq with
  | zero => exact absurd HA.out (by simp [r3_Name.j0])
  | succ kj1 =>
   have H := HA.out; clear HA; simp only [r3_Name.j0] at H
   by_cases c9 : x21_1 = true
   ·subst c9; rw [if_pos rfl] at H; obtain rfl := oI_ H; go_wp2; go_ret; exact ⟨eQ_, dR_⟩
   replace c9 := eF_ c9; subst c9; rw [if_neg Bool.false_ne_true] at H; replace H := aM_ H; go_wp2
   go_loopg [3] kj1 (fun kq v3 w' => ∃ (x3_2 : Int), v3 = .int .i64 x3_2 ∧ As_ (r3_Name.l0 kq a0 x3_2 = some r) ∧ As_ (kq ≤ kj1) ∧ Dr_ w w')
   case atStart => exact ⟨(0), eQ_, H, ⟨Nat.le_refl _⟩, dR_⟩
   case round =>
    clear H; obtain ⟨x3_2, rfl, HA, HK2, ⟨m2, rfl⟩⟩ := hrel
    cases gk with
    | zero => exact absurd HA.out (by simp [r3_Name.l0])
    | succ k2 =>
     have H := HA.out; clear HA; simp only [r3_Name.l0] at H
     by_cases c10 : x3_2 < (a0.size : Int)
     ·rw [if_pos c10] at H; have c10b0 := dE_ c10; clear c10; have HC11 := aM_ H; clear H
      go_upto_region 6 with (fail)
      go_cut [56] (fun v56 wc => ∃ (kq : Nat) (x56_10 : Bool), v56 = .bool x56_10 ∧ As_ (r3_Name.j2 kq a0 x3_2 x56_10 = some r) ∧ As_ (kq ≤ k2) ∧ Dr_ w wc)
      case first =>
       have H := HC11.out; clear HC11
       by_cases c12 : 0 ≤ x3_2
       ·rw [if_pos c12] at H; have c12b0 := dE_ c12; clear c12
        (first | rw [c12b0] | (simp only [i64_w, i32_w]; rw [c12b0]) | skip)
        by_cases c14 : (bt a0 x3_2) ≥ 97
        ·rw [if_pos c14] at H; have c14b0 := dE_ c14; clear c14
         by_cases c16 : (bt a0 x3_2) ≤ 122
         ·rw [if_pos c16] at H; have c16b0 := dE_ c16; clear c16; replace H := aM_ H; have p13 : 0 ≤ (x3_2 : Int) := oD_; have q13 : x3_2 < (a0.size : Int) := oD_; have hx13 := bt_at a0 x3_2; replace p13 := eq_true p13; replace q13 := eq_true q13; have p15 : 0 ≤ (x3_2 : Int) := oD_; have q15 : x3_2 < (a0.size : Int) := oD_; have hx15 := bt_at a0 x3_2; replace p15 := eq_true p15; replace q15 := eq_true q15; go_wp2
          go_meet
          case rel => exact ⟨_, (!true), eQ_, H, ⟨by have := HJ1.out; have := HK2.out; first | omega | exact Nat.le_refl _⟩, dR_⟩
         rw [if_neg c16] at H; have c16b0 := dF_ c16; clear c16
         by_cases c18 : (bt a0 x3_2) = 95
         ·rw [if_pos c18] at H; have c18b0 := bH_ c18; have c18b1 := bF_ c18; clear c18; replace H := aM_ H; have p13 : 0 ≤ (x3_2 : Int) := oD_; have q13 : x3_2 < (a0.size : Int) := oD_; have hx13 := bt_at a0 x3_2; replace p13 := eq_true p13; replace q13 := eq_true q13; have p15 : 0 ≤ (x3_2 : Int) := oD_; have q15 : x3_2 < (a0.size : Int) := oD_; have hx15 := bt_at a0 x3_2; replace p15 := eq_true p15; replace q15 := eq_true q15; have p17 : 0 ≤ (x3_2 : Int) := oD_; have q17 : x3_2 < (a0.size : Int) := oD_; have hx17 := bt_at a0 x3_2; replace p17 := eq_true p17; replace q17 := eq_true q17; go_wp2
          go_meet
          case rel => exact ⟨_, (!true), eQ_, H, ⟨by have := HJ1.out; have := HK2.out; first | omega | exact Nat.le_refl _⟩, dR_⟩
         rw [if_neg c18] at H; have c18b0 := bE_ c18; have c18b1 := bG_ c18
         by_cases c20 : (bt a0 x3_2) ≥ 48
         ·rw [if_pos c20] at H; have c20b0 := dE_ c20; clear c20; replace H := aM_ H; have p13 : 0 ≤ (x3_2 : Int) := oD_; have q13 : x3_2 < (a0.size : Int) := oD_; have hx13 := bt_at a0 x3_2; replace p13 := eq_true p13; replace q13 := eq_true q13; have p15 : 0 ≤ (x3_2 : Int) := oD_; have q15 : x3_2 < (a0.size : Int) := oD_; have hx15 := bt_at a0 x3_2; replace p15 := eq_true p15; replace q15 := eq_true q15; have p17 : 0 ≤ (x3_2 : Int) := oD_; have q17 : x3_2 < (a0.size : Int) := oD_; have hx17 := bt_at a0 x3_2; replace p17 := eq_true p17; replace q17 := eq_true q17; have p19 : 0 ≤ (x3_2 : Int) := oD_; have q19 : x3_2 < (a0.size : Int) := oD_; have hx19 := bt_at a0 x3_2; replace p19 := eq_true p19; replace q19 := eq_true q19; have p21 : 0 ≤ (x3_2 : Int) := oD_; have q21 : x3_2 < (a0.size : Int) := oD_; have hx21 := bt_at a0 x3_2; replace p21 := eq_true p21; replace q21 := eq_true q21; go_wp2
          go_meet
          case rel => exact ⟨_, (!(decide ((bt a0 x3_2) ≤ 57))), eQ_, H, ⟨by have := HJ1.out; have := HK2.out; first | omega | exact Nat.le_refl _⟩, dR_⟩
         rw [if_neg c20] at H; have c20b0 := dF_ c20; clear c20; replace H := aM_ H; have p13 : 0 ≤ (x3_2 : Int) := oD_; have q13 : x3_2 < (a0.size : Int) := oD_; have hx13 := bt_at a0 x3_2; replace p13 := eq_true p13; replace q13 := eq_true q13; have p15 : 0 ≤ (x3_2 : Int) := oD_; have q15 : x3_2 < (a0.size : Int) := oD_; have hx15 := bt_at a0 x3_2; replace p15 := eq_true p15; replace q15 := eq_true q15; have p17 : 0 ≤ (x3_2 : Int) := oD_; have q17 : x3_2 < (a0.size : Int) := oD_; have hx17 := bt_at a0 x3_2; replace p17 := eq_true p17; replace q17 := eq_true q17; have p19 : 0 ≤ (x3_2 : Int) := oD_; have q19 : x3_2 < (a0.size : Int) := oD_; have hx19 := bt_at a0 x3_2; replace p19 := eq_true p19; replace q19 := eq_true q19; go_wp2
         go_meet
         case rel => exact ⟨_, (!false), eQ_, H, ⟨by have := HJ1.out; have := HK2.out; first | omega | exact Nat.le_refl _⟩, dR_⟩
        rw [if_neg c14] at H; have c14b0 := dF_ c14; clear c14
        by_cases c23 : (bt a0 x3_2) = 95
        ·rw [if_pos c23] at H; have c23b0 := bH_ c23; have c23b1 := bF_ c23; clear c23; replace H := aM_ H; have p13 : 0 ≤ (x3_2 : Int) := oD_; have q13 : x3_2 < (a0.size : Int) := oD_; have hx13 := bt_at a0 x3_2; replace p13 := eq_true p13; replace q13 := eq_true q13; have p22 : 0 ≤ (x3_2 : Int) := oD_; have q22 : x3_2 < (a0.size : Int) := oD_; have hx22 := bt_at a0 x3_2; replace p22 := eq_true p22; replace q22 := eq_true q22; go_wp2
         go_meet
         case rel => exact ⟨_, (!true), eQ_, H, ⟨by have := HJ1.out; have := HK2.out; first | omega | exact Nat.le_refl _⟩, dR_⟩
        rw [if_neg c23] at H; have c23b0 := bE_ c23; have c23b1 := bG_ c23
        by_cases c25 : (bt a0 x3_2) ≥ 48
        ·rw [if_pos c25] at H; have c25b0 := dE_ c25; clear c25; replace H := aM_ H; have p13 : 0 ≤ (x3_2 : Int) := oD_; have q13 : x3_2 < (a0.size : Int) := oD_; have hx13 := bt_at a0 x3_2; replace p13 := eq_true p13; replace q13 := eq_true q13; have p22 : 0 ≤ (x3_2 : Int) := oD_; have q22 : x3_2 < (a0.size : Int) := oD_; have hx22 := bt_at a0 x3_2; replace p22 := eq_true p22; replace q22 := eq_true q22; have p24 : 0 ≤ (x3_2 : Int) := oD_; have q24 : x3_2 < (a0.size : Int) := oD_; have hx24 := bt_at a0 x3_2; replace p24 := eq_true p24; replace q24 := eq_true q24; have p26 : 0 ≤ (x3_2 : Int) := oD_; have q26 : x3_2 < (a0.size : Int) := oD_; have hx26 := bt_at a0 x3_2; replace p26 := eq_true p26; replace q26 := eq_true q26; go_wp2
         go_meet
         case rel => exact ⟨_, (!(decide ((bt a0 x3_2) ≤ 57))), eQ_, H, ⟨by have := HJ1.out; have := HK2.out; first | omega | exact Nat.le_refl _⟩, dR_⟩
        rw [if_neg c25] at H; have c25b0 := dF_ c25; clear c25; replace H := aM_ H; have p13 : 0 ≤ (x3_2 : Int) := oD_; have q13 : x3_2 < (a0.size : Int) := oD_; have hx13 := bt_at a0 x3_2; replace p13 := eq_true p13; replace q13 := eq_true q13; have p22 : 0 ≤ (x3_2 : Int) := oD_; have q22 : x3_2 < (a0.size : Int) := oD_; have hx22 := bt_at a0 x3_2; replace p22 := eq_true p22; replace q22 := eq_true q22; have p24 : 0 ≤ (x3_2 : Int) := oD_; have q24 : x3_2 < (a0.size : Int) := oD_; have hx24 := bt_at a0 x3_2; replace p24 := eq_true p24; replace q24 := eq_true q24; go_wp2
        go_meet
        case rel => exact ⟨_, (!false), eQ_, H, ⟨by have := HJ1.out; have := HK2.out; first | omega | exact Nat.le_refl _⟩, dR_⟩
       rw [if_neg c12] at H; exact absurd H (by simp)
      case rest =>
       clear HC11; obtain ⟨kq, x56_10, rfl, HA, HJ10, ⟨mc10, rfl⟩⟩ := hcut
       cases kq with
       | zero => exact absurd HA.out (by simp [r3_Name.j2])
       | succ kj10 =>
        have H := HA.out; clear HA; simp only [r3_Name.j2] at H
        by_cases c27 : x56_10 = true
        ·subst c27; rw [if_pos rfl] at H; obtain rfl := oI_ H; go_wp2; go_ret; exact ⟨eQ_, dR_⟩
        replace c27 := eF_ c27; subst c27; rw [if_neg Bool.false_ne_true] at H; replace H := aM_ H; go_wp2
        go_roundg kj10
        case measure => have := HJ1.out; have := HK2.out; have := HJ10.out; omega
        case rel => exact ⟨(wrap64 (x3_2 + 1)), eQ_, H, ⟨by have := HJ1.out; have := HK2.out; have := HJ10.out; omega⟩, dR_⟩
     rw [if_neg c10] at H; have c10b0 := dF_ c10; clear c10; obtain rfl := oI_ H; go_wp2; go_ret; exact ⟨eQ_, dR_⟩
def r1_Fits.f (a0 : Int) (a1 : Int) : Option (Bool) := if 0 ≤ (wrap64 (a1 - 1)) then (if a0 ≥ (wrap64 (-(shl .i64 1 (wrap64 (a1 - 1))))) then (some (decide (a0 < (shl .i64 1 (wrap64 (a1 - 1)))))) else (some false)) else (none)
theorem r1_Fits.calls (a0 : Int) (a1 : Int) (r : Bool) (w : World) (h : r1_Fits.f a0 a1 = some r) :
    Calls Try.prog 69 #[.int .i64 a0, .int .i64 a1] w fun e w' => e = .returned (.bool r) ∧ Dr_ w w' := by
 have H : (if 0 ≤ (wrap64 (a1 - 1)) then (if a0 ≥ (wrap64 (-(shl .i64 1 (wrap64 (a1 - 1))))) then (some (decide (a0 < (shl .i64 1 (wrap64 (a1 - 1)))))) else (some false)) else (none)) = some r := h; clear h; obtain ⟨ji3, hji3⟩ : ∃ j_ : Int, (wrap64 (a1 - 1)) = j_ := ⟨_, rfl⟩
 replace H : (if 0 ≤ (ji3) then (if a0 ≥ (wrap64 (-(shl .i64 1 (ji3)))) then (some (decide (a0 < (shl .i64 1 (ji3))))) else (some false)) else (none)) = some r := by first | (rw [hji3] at H; exact H) | (simp only [hji3] at H ⊢; exact H)
 have hji3w : (IntKind.i64.wrap (a1 - 1)) = ji3 := (i64_w _).trans hji3
 by_cases c4 : 0 ≤ (ji3)
 ·rw [if_pos c4] at H; have c4b0 := eq_true c4; have c4b1 := dE_ c4; clear c4; obtain ⟨ji5, hji5⟩ : ∃ j_ : Int, (shl .i64 1 (ji3)) = j_ := ⟨_, rfl⟩
  replace H : (if a0 ≥ (wrap64 (-(ji5))) then (some (decide (a0 < (ji5)))) else (some false)) = some r := by first | (rw [hji5] at H; exact H) | (simp only [hji5] at H ⊢; exact H)
  have hji5_ : (IntKind.i64.wrap (1 * 2 ^ min (ji3).toNat 64)) = ji5 := hji5; have hji5z : (ji3) ≤ 64 → (IntKind.i64.wrap (1 * 2 ^ (ji3).toNat)) = ji5 := shl_small hji5; have hji5u : (IntKind.i64.wrap (2 ^ min (ji3).toNat 64)) = ji5 := by have h_ := hji5_; rw [Int.one_mul] at h_; exact h_
  have hji5v : (ji3) ≤ 64 → (IntKind.i64.wrap (2 ^ (ji3).toNat)) = ji5 := fun hle_ => by have h_ := hji5z hle_; rw [Int.one_mul] at h_; exact h_
  have hji5y : (wrap64 (1 * 2 ^ min (ji3).toNat 64)) = ji5 := (i64_w _).symm.trans hji5_; have hji5x : (ji3) ≤ 64 → (wrap64 (1 * 2 ^ (ji3).toNat)) = ji5 := fun h_ => (i64_w _).symm.trans (hji5z h_)
  by_cases c6 : a0 ≥ (wrap64 (-(ji5)))
  ·rw [if_pos c6] at H; have c6b0 := dE_ c6; clear c6; obtain rfl := oI_ H; go_enter Try.func69, Try.ntmps69; go_wp2; go_ret; exact ⟨by first | rfl | (simp; done) | (simp only [← hji3, ← hji5] <;> (first | rfl | simp)) | (simp [*]; done) | (congr 1; rw [Bool.eq_iff_iff]; simp; done), dR_⟩
  rw [if_neg c6] at H; have c6b0 := dF_ c6; clear c6; obtain rfl := oI_ H; go_enter Try.func69, Try.ntmps69; go_wp2; go_ret; exact ⟨by first | rfl | (simp; done) | (simp only [← hji3, ← hji5] <;> (first | rfl | simp)) | (simp [*]; done) | (congr 1; rw [Bool.eq_iff_iff]; simp; done), dR_⟩
 rw [if_neg c4] at H; exact absurd H (by simp)
mutual
def r3_Bits.j0 : Nat → Int → Bool → Option (Int)
  | 0, _, _ => none
  | k + 1, x3, x4 => if x4 = true then (some 14) else (if x3 = 4 then (r3_Bits.j1 k (x3 == 4)) else (r3_Bits.j1 k (x3 == 8)))
def r3_Bits.j1 : Nat → Bool → Option (Int)
  | 0, _ => none
  | k + 1, x8 => if x8 = true then (some 18) else (some 0)
end
def r3_Bits.f (k : Nat) (a0 : Int) : Option (Int) := if a0 = 3 then (r3_Bits.j0 k a0 (a0 == 3)) else (if a0 = 5 then (r3_Bits.j0 k a0 (a0 == 5)) else (r3_Bits.j0 k a0 (a0 == 9)))
theorem r3_Bits.mono_l : ∀ k, (∀ y0 y1, LeO (r3_Bits.j0 k y0 y1) (r3_Bits.j0 (k + 1) y0 y1)) ∧ (∀ y0, LeO (r3_Bits.j1 k y0) (r3_Bits.j1 (k + 1) y0))
  | 0 => ⟨fun _ _ r h => by simp [r3_Bits.j0] at h, fun _ r h => by simp [r3_Bits.j1] at h⟩
  | k + 1 => by
    obtain ⟨ih0, ih1⟩ := r3_Bits.mono_l k; refine ⟨?_, ?_⟩
    · intro y0 y1; unfold r3_Bits.j0
      repeat' first
      | (with_reducible exact ih0 _ _)
      | (with_reducible exact ih1 _)
      | (with_reducible exact LeO.refl _)
      | (with_reducible exact LeO.none _)
      | (with_reducible refine LeO.ite ?_ ?_)
      | (with_reducible refine LeO.bind ?_ (fun _ => ?_))
      | exact LeO.none _
      | refine LeO.ite ?_ ?_
      | refine LeO.bind ?_ (fun _ => ?_)
    · intro y0; unfold r3_Bits.j1
      repeat' first
      | (with_reducible exact ih0 _ _)
      | (with_reducible exact ih1 _)
      | (with_reducible exact LeO.refl _)
      | (with_reducible exact LeO.none _)
      | (with_reducible refine LeO.ite ?_ ?_)
      | (with_reducible refine LeO.bind ?_ (fun _ => ?_))
      | exact LeO.none _
      | refine LeO.ite ?_ ?_
      | refine LeO.bind ?_ (fun _ => ?_)
theorem r3_Bits.mono : ∀ a0 k, LeO (r3_Bits.f k a0) (r3_Bits.f (k + 1) a0) := by
 intro a0 k; obtain ⟨ih0, ih1⟩ := r3_Bits.mono_l k; unfold r3_Bits.f
 repeat' first
  | (with_reducible exact ih0 _ _)
  | (with_reducible exact ih1 _)
  | (with_reducible exact LeO.refl _)
  | (with_reducible exact LeO.none _)
  | (with_reducible refine LeO.ite ?_ ?_)
  | (with_reducible refine LeO.bind ?_ (fun _ => ?_))
  | exact LeO.none _
  | refine LeO.ite ?_ ?_
  | refine LeO.bind ?_ (fun _ => ?_)
theorem r3_Bits.calls (k : Nat) (a0 : Int) (r : Int) (w : World) (h : r3_Bits.f k a0 = some r) :
    Calls Try.prog 70 #[.int .i64 a0] w fun e w' => e = .returned (.int .i64 r) ∧ Dr_ w w' := by
 have H : (if a0 = 3 then (r3_Bits.j0 k a0 (a0 == 3)) else (if a0 = 5 then (r3_Bits.j0 k a0 (a0 == 5)) else (r3_Bits.j0 k a0 (a0 == 9)))) = some r := h; clear h; have HC2 := aM_ H; clear H; go_enter Try.func70, Try.ntmps70
 go_upto_if 4 with (fail)
 go_cut [4] (fun v4 wc => ∃ (kq : Nat) (x4_1 : Bool), v4 = .bool x4_1 ∧ As_ (r3_Bits.j0 kq a0 x4_1 = some r) ∧ As_ (kq ≤ k) ∧ Dr_ w wc)
 case first =>
  have H := HC2.out; clear HC2
  by_cases c3 : a0 = 3
  ·rw [if_pos c3] at H; have c3b0 := bH_ c3; have c3b1 := bF_ c3; clear c3
   (first | rw [c3b0] | (simp only [i64_w, i32_w]; rw [c3b0]) | skip)
   replace H := aM_ H; go_wp2
   go_meet
   case rel => exact ⟨_, ((a0 == 3)), eQ_, H, ⟨by first | omega | exact Nat.le_refl _⟩, dR_⟩
  rw [if_neg c3] at H; have c3b0 := bE_ c3; have c3b1 := bG_ c3
  (first | rw [c3b0] | (simp only [i64_w, i32_w]; rw [c3b0]) | skip)
  by_cases c4 : a0 = 5
  ·rw [if_pos c4] at H; have c4b0 := bH_ c4; have c4b1 := bF_ c4; clear c4; replace H := aM_ H; go_wp2
   go_meet
   case rel => exact ⟨_, ((a0 == 5)), eQ_, H, ⟨by first | omega | exact Nat.le_refl _⟩, dR_⟩
  rw [if_neg c4] at H; have c4b0 := bE_ c4; have c4b1 := bG_ c4; replace H := aM_ H; go_wp2
  go_meet
  case rel => exact ⟨_, ((a0 == 9)), eQ_, H, ⟨by first | omega | exact Nat.le_refl _⟩, dR_⟩
 case rest =>
  clear HC2; obtain ⟨kq, x4_1, rfl, HA, HJ1, ⟨mc1, rfl⟩⟩ := hcut
  cases kq with
  | zero => exact absurd HA.out (by simp [r3_Bits.j0])
  | succ kj1 =>
   have H := HA.out; clear HA; simp only [r3_Bits.j0] at H
   by_cases c5 : x4_1 = true
   ·subst c5; rw [if_pos rfl] at H; obtain rfl := oI_ H; go_wp2; go_ret; exact ⟨eQ_, dR_⟩
   replace c5 := eF_ c5; subst c5; rw [if_neg Bool.false_ne_true] at H; have HC6 := aM_ H; clear H
   go_upto_if 8 with (fail)
   go_cut [8] (fun v8 wc => ∃ (kq : Nat) (x8_5 : Bool), v8 = .bool x8_5 ∧ As_ (r3_Bits.j1 kq x8_5 = some r) ∧ As_ (kq ≤ kj1) ∧ Dr_ w wc)
   case first =>
    have H := HC6.out; clear HC6
    by_cases c7 : a0 = 4
    ·rw [if_pos c7] at H; have c7b0 := bH_ c7; have c7b1 := bF_ c7; clear c7
     (first | rw [c7b0] | (simp only [i64_w, i32_w]; rw [c7b0]) | skip)
     replace H := aM_ H; go_wp2
     go_meet
     case rel => exact ⟨_, ((a0 == 4)), eQ_, H, ⟨by have := HJ1.out; first | omega | exact Nat.le_refl _⟩, dR_⟩
    rw [if_neg c7] at H; have c7b0 := bE_ c7; have c7b1 := bG_ c7
    (first | rw [c7b0] | (simp only [i64_w, i32_w]; rw [c7b0]) | skip)
    replace H := aM_ H; go_wp2
    go_meet
    case rel => exact ⟨_, ((a0 == 8)), eQ_, H, ⟨by have := HJ1.out; first | omega | exact Nat.le_refl _⟩, dR_⟩
   case rest =>
    clear HC6; obtain ⟨kq, x8_5, rfl, HA, HJ5, ⟨mc5, rfl⟩⟩ := hcut
    cases kq with
    | zero => exact absurd HA.out (by simp [r3_Bits.j1])
    | succ kj5 =>
     have H := HA.out; clear HA; simp only [r3_Bits.j1] at H
     by_cases c8 : x8_5 = true
     ·subst c8; rw [if_pos rfl] at H; obtain rfl := oI_ H; go_wp2; go_ret; exact ⟨eQ_, dR_⟩
     replace c8 := eF_ c8; subst c8; rw [if_neg Bool.false_ne_true] at H; obtain rfl := oI_ H; go_wp2; go_ret; exact ⟨eQ_, dR_⟩
end
section
attribute [local go_sem] max2_int min2_int max_two min_two max_three min_three max_four min_four
def r3_Ends.f (a0 : Int) : Option (Bool) := (r0_Between.f a0 28 33).bind fun t292 => (some t292)
theorem r3_Ends.calls (a0 : Int) (r : Bool) (w : World) (h : r3_Ends.f a0 = some r) :
    Calls Try.prog 40 #[.int .i64 a0] w fun e w' => e = .returned (.bool r) ∧ Dr_ w w' := by
 have H : ((r0_Between.f a0 28 33).bind fun t292 => (some t292)) = some r := h; clear h; obtain ⟨t292, A2, H⟩ := oB_ H; obtain rfl := oI_ H; go_enter Try.func40, Try.ntmps40
 go_wp2_with (first | ((with_reducible refine gC_ (f := 54) rfl ?_); refine gL_ (some 4) Try.func54 #[.int .i64 a0, .int .i64 28, .int .i64 33] rfl ?_; (with_reducible refine (r0_Between.calls a0 28 33 t292 _ A2.out).mono ?_); rintro e w' ⟨rfl, ⟨nd, rfl⟩⟩; refine ⟨_, rfl, ?_⟩))
 go_ret; exact ⟨eQ_, dR_⟩
end
section
def formOf (op : Int) : Int := rd [0, 1, 1, 1, 1, 1, 1, 1, 1, 1, 1, 1, 1, 1, 1, 1, 1, 1, 1, 1, 1, 2, 3, 4, 3, 5, 6, 7, 8, 9, 9, 8, 0, 0] op
def hasD (f : Int) : Bool := f == 1 || f == 2 || f == 3 || f == 4 || f == 6
def hasA (f : Int) : Bool := f == 1 || f == 2 || f == 3 || f == 5 || f == 7 || f == 9
def hasB (f : Int) : Bool := f == 1 || f == 5
def target (f : Int) : Bool := f == 8 || f == 9
def bitsOf (f : Int) : Int := if f = 3 ∨ f = 5 ∨ f = 9 then 14 else if f = 4 ∨ f = 8 then 18 else 0
theorem upto34 {p : Int → Prop} (h : ∀ n : Fin 34, p (n.val : Int)) (op : Int) (h0 : 0 ≤ op) (h1 : op ≤ 33) : p op := by
  have := h ⟨op.toNat, by omega⟩
  rwa [show ((op.toNat : Nat) : Int) = op from by omega] at this
theorem upto10 {p : Int → Prop} (h : ∀ n : Fin 10, p (n.val : Int)) (f : Int) (h0 : 0 ≤ f) (h1 : f ≤ 9) : p f := by
  have := h ⟨f.toNat, by omega⟩
  rwa [show ((f.toNat : Nat) : Int) = f from by omega] at this
theorem formOf_range (op : Int) : 0 ≤ op → op ≤ 33 → 0 ≤ formOf op ∧ formOf op ≤ 9 := upto34 (p := fun op => 0 ≤ formOf op ∧ formOf op ≤ 9) (by decide) op
theorem formOf_li (op : Int) : 0 ≤ op → op ≤ 33 → (formOf op = 4 ↔ op = 23) := upto34 (p := fun op => formOf op = 4 ↔ op = 23) (by decide) op
theorem form_eq (op : Int) (h0 : 0 ≤ op) (h1 : op ≤ 33) : r3_Form.f op = some (formOf op) := upto34 (p := fun op => r3_Form.f op = some (formOf op)) (by decide) op h0 h1
theorem shape_eq {k : Nat} (hk : 10 ≤ k) (op : Int) (h0 : 0 ≤ op) (h1 : op ≤ 33) : isa_Shape.f k op = some (formOf op) :=
  at_rounds (isa_Shape.mono op) hk (upto34 (p := fun op => isa_Shape.f 10 op = some (formOf op)) (by decide) op h0 h1)
theorem isa_hasD (f : Int) (h0 : 0 ≤ f) (h1 : f ≤ 9) : isa_HasD.f f = some (hasD f) := upto10 (p := fun f => isa_HasD.f f = some (hasD f)) (by decide) f h0 h1
theorem isa_hasA {k : Nat} (hk : 10 ≤ k) (f : Int) (h0 : 0 ≤ f) (h1 : f ≤ 9) : isa_HasA.f k f = some (hasA f) :=
  at_rounds (isa_HasA.mono f) hk (upto10 (p := fun f => isa_HasA.f 10 f = some (hasA f)) (by decide) f h0 h1)
theorem isa_hasB (f : Int) (h0 : 0 ≤ f) (h1 : f ≤ 9) : isa_HasB.f f = some (hasB f) := upto10 (p := fun f => isa_HasB.f f = some (hasB f)) (by decide) f h0 h1
theorem isa_target (f : Int) (h0 : 0 ≤ f) (h1 : f ≤ 9) : isa_Target.f f = some (target f) := upto10 (p := fun f => isa_Target.f f = some (target f)) (by decide) f h0 h1
theorem isa_bits {k : Nat} (hk : 10 ≤ k) (f : Int) (h0 : 0 ≤ f) (h1 : f ≤ 9) : isa_Bits.f k f = some (bitsOf f) :=
  at_rounds (isa_Bits.mono f) hk (upto10 (p := fun f => isa_Bits.f 10 f = some (bitsOf f)) (by decide) f h0 h1)
theorem ref_hasD (f : Int) (h0 : 0 ≤ f) (h1 : f ≤ 9) : r3_HasD.f f = some (hasD f) := upto10 (p := fun f => r3_HasD.f f = some (hasD f)) (by decide) f h0 h1
theorem ref_hasA (f : Int) (h0 : 0 ≤ f) (h1 : f ≤ 9) : r3_HasA.f f = some (hasA f) := upto10 (p := fun f => r3_HasA.f f = some (hasA f)) (by decide) f h0 h1
theorem ref_hasB (f : Int) (h0 : 0 ≤ f) (h1 : f ≤ 9) : r3_HasB.f f = some (hasB f) := upto10 (p := fun f => r3_HasB.f f = some (hasB f)) (by decide) f h0 h1
theorem ref_target (f : Int) (h0 : 0 ≤ f) (h1 : f ≤ 9) : r3_Target.f f = some (target f) := upto10 (p := fun f => r3_Target.f f = some (target f)) (by decide) f h0 h1
theorem ref_bits {k : Nat} (hk : 10 ≤ k) (f : Int) (h0 : 0 ≤ f) (h1 : f ≤ 9) : r3_Bits.f k f = some (bitsOf f) :=
  at_rounds (r3_Bits.mono f) hk (upto10 (p := fun f => r3_Bits.f 10 f = some (bitsOf f)) (by decide) f h0 h1)
def regOk (has : Bool) (n : Int) : Bool := if has = true then decide (0 ≤ n ∧ n ≤ 15) else n == 0
def fit14 (n : Int) : Bool := decide (-8192 ≤ n ∧ n < 8192)
def fit18 (n : Int) : Bool := decide (-131072 ≤ n ∧ n < 131072)
theorem isa_reg_eq (has : Bool) (n : Int) : isa_reg.f has n = some (regOk has n) := by
  unfold isa_reg.f regOk
  cases has with
  | true =>
    by_cases h : n = 0
    · subst h; rfl
    · rw [if_neg h]
      by_cases h2 : n > 0
      · simp only [if_pos h2, if_true, Option.some.injEq]
        by_cases h3 : n < 16 <;> simp [h3] <;> omega
      · simp only [if_neg h2, if_true, Option.some.injEq]
        symm; rw [decide_eq_false_iff_not]; omega
  | false =>
    by_cases h : n = 0
    · subst h; rfl
    · simp [h]
theorem ref_reg_eq (has : Bool) (n : Int) : r3_reg.f n has = some (regOk has n) := by
  unfold r3_reg.f regOk r0_Num.f
  cases has with
  | true =>
    by_cases h : n ≥ 0
    · simp only [if_pos h, if_true, Option.bind_some, Option.some.injEq]
      by_cases h3 : n ≤ 15 <;> simp [h3] <;> omega
    · simp only [if_neg h, if_true, Option.bind_some, Option.some.injEq]
      symm; rw [decide_eq_false_iff_not]; omega
  | false => simp
theorem within14 (n : Int) : word_Within.f n 14 = some (fit14 n) := by
  unfold word_Within.f fit14; rw [if_pos (by decide +kernel), show shl .i64 (-1) (wrap64 (14 - 1)) = -8192 from by decide +kernel, show shl .i64 1 (wrap64 (14 - 1)) = 8192 from by decide +kernel]
  by_cases h : n ≥ -8192
  · rw [if_pos h]; by_cases h2 : n < 8192 <;> simp [h2]; omega
  · rw [if_neg h]; congr 1; symm; rw [decide_eq_false_iff_not]; omega
theorem within18 (n : Int) : word_Within.f n 18 = some (fit18 n) := by
  unfold word_Within.f fit18; rw [if_pos (by decide +kernel), show shl .i64 (-1) (wrap64 (18 - 1)) = -131072 from by decide +kernel, show shl .i64 1 (wrap64 (18 - 1)) = 131072 from by decide +kernel]
  by_cases h : n ≥ -131072
  · rw [if_pos h]; by_cases h2 : n < 131072 <;> simp [h2]; omega
  · rw [if_neg h]; congr 1; symm; rw [decide_eq_false_iff_not]; omega
theorem fits14 (n : Int) : r1_Fits.f n 14 = some (fit14 n) := by
  unfold r1_Fits.f fit14; rw [if_pos (by decide +kernel), show wrap64 (-(shl .i64 1 (wrap64 (14 - 1)))) = -8192 from by decide +kernel, show shl .i64 1 (wrap64 (14 - 1)) = 8192 from by decide +kernel]
  by_cases h : n ≥ -8192
  · rw [if_pos h]; by_cases h2 : n < 8192 <;> simp [h2]; omega
  · rw [if_neg h]; congr 1; symm; rw [decide_eq_false_iff_not]; omega
theorem fits18 (n : Int) : r1_Fits.f n 18 = some (fit18 n) := by
  unfold r1_Fits.f fit18; rw [if_pos (by decide +kernel), show wrap64 (-(shl .i64 1 (wrap64 (18 - 1)))) = -131072 from by decide +kernel, show shl .i64 1 (wrap64 (18 - 1)) = 131072 from by decide +kernel]
  by_cases h : n ≥ -131072
  · rw [if_pos h]; by_cases h2 : n < 131072 <;> simp [h2]; omega
  · rw [if_neg h]; congr 1; symm; rw [decide_eq_false_iff_not]; omega
def letter (c : Int) : Bool := c == 95 || (decide (97 ≤ c) && decide (c ≤ 122))
def digit (c : Int) : Bool := decide (48 ≤ c) && decide (c ≤ 57)
def nameFrom (s : ByteArray) (i : Int) : Nat → Bool
  | 0 => true
  | d + 1 => (letter (bt s i) || digit (bt s i)) && nameFrom s (i + 1) d
def nameOk (s : ByteArray) : Bool := decide (0 < s.size) && (decide (s.size ≤ 12) && (letter (bt s 0) && nameFrom s 0 s.size))
theorem letter_eq (c : Int) : isa_letter.f c = some (letter c) := by
  unfold isa_letter.f letter
  by_cases h : c = 95
  · simp [h]
  · by_cases h2 : c ≥ 97 <;> simp [h, h2]
theorem wrapI {i : Int} (h0 : 0 ≤ i) (h : i ≤ 4611686018427387904) : wrap64 (i + 1) = i + 1 := by
  unfold wrap64; omega
theorem isa_name_loop (s : ByteArray) (hs : s.size ≤ 12) : ∀ (d : Nat) (k : Nat) (i : Int), 0 ≤ i → i + d = s.size → 2 * d + 1 ≤ k → isa_Name2.l0 k s s.size i = some (nameFrom s i d)
  | 0, k, i, h0, h1, hk => by
    obtain ⟨m, rfl⟩ : ∃ m, k = m + 1 := ⟨k - 1, by omega⟩
    simp only [isa_Name2.l0, nameFrom]; rw [if_neg (by omega)]
  | d + 1, k, i, h0, h1, hk => by
    obtain ⟨m, rfl⟩ : ∃ m, k = m + 2 := ⟨k - 2, by omega⟩
    simp only [isa_Name2.l0, nameFrom]; rw [if_pos (by omega), if_pos h0, if_pos (by omega), letter_eq]; simp only [Option.bind_some]; have hw : wrap64 (i + 1) = i + 1 := wrapI h0 (by omega); have ih := isa_name_loop s hs d m (i + 1) (by omega) (by omega) (by omega)
    cases hl : letter (bt s i) with
    | true => simp only [if_true, isa_Name2.j2, Bool.false_eq_true, if_false, hw, ih, Bool.true_or, Bool.true_and]
    | false =>
      simp only [Bool.false_eq_true, if_false, Bool.false_or]
      by_cases h3 : bt s i < 48
      · rw [if_pos h3]; simp only [isa_Name2.j2, if_true]; congr 1; simp [digit]; omega
      · rw [if_neg h3]
        by_cases h4 : bt s i > 57
        · simp only [isa_Name2.j2, decide_eq_true h4, if_true]; congr 1; simp [digit]; omega
        · simp only [isa_Name2.j2, decide_eq_false h4, Bool.false_eq_true, if_false, hw, ih]; have : digit (bt s i) = true := by simp [digit]; omega
          rw [this, Bool.true_and]
theorem toList_nil (s : ByteArray) : s.toList = [] ↔ s.size = 0 := by
  rw [ByteArray.toList_eq, Lib.size_eq]; exact List.length_eq_zero_iff.symm
theorem isa_name {k : Nat} (hk : 40 ≤ k) (s : ByteArray) : isa_Name2.f k s = some (nameOk s) := by
  obtain ⟨m, rfl⟩ : ∃ m, k = m + 1 := ⟨k - 1, by omega⟩
  unfold isa_Name2.f nameOk
  by_cases h : s.toList = []
  · rw [if_pos h]; have h0 : s.size = 0 := (toList_nil s).1 h; simp [isa_Name2.j0, h0]
  · rw [if_neg h]
    have h0 : 0 < s.size := by
      have : s.size ≠ 0 := fun h1 => h ((toList_nil s).2 h1); omega
    by_cases h12 : (s.size : Int) > 12
    · rw [if_pos h12]; have : ¬ s.size ≤ 12 := by omega
      simp [isa_Name2.j0, this]
    · rw [if_neg h12, if_pos (by omega), letter_eq]; simp only [Option.bind_some]; have h12' : s.size ≤ 12 := by omega
      cases hl : letter (bt s 0) with
      | false => simp [isa_Name2.j0]
      | true =>
        simp only [isa_Name2.j0, Bool.not_true, Bool.false_eq_true, if_false]; rw [isa_name_loop s h12' s.size m 0 (by omega) (by omega) (by omega)]; simp [h0, h12']
theorem ref_name_loop (s : ByteArray) (hs : s.size ≤ 12) : ∀ (d : Nat) (k : Nat) (i : Int), 0 ≤ i → i + d = s.size → 2 * d + 1 ≤ k → r3_Name.l0 k s i = some (nameFrom s i d)
  | 0, k, i, h0, h1, hk => by
    obtain ⟨m, rfl⟩ : ∃ m, k = m + 1 := ⟨k - 1, by omega⟩
    simp only [r3_Name.l0, nameFrom]; rw [if_neg (by omega)]
  | d + 1, k, i, h0, h1, hk => by
    obtain ⟨m, rfl⟩ : ∃ m, k = m + 2 := ⟨k - 2, by omega⟩
    simp only [r3_Name.l0, nameFrom]; rw [if_pos (by omega), if_pos h0]; have hw : wrap64 (i + 1) = i + 1 := wrapI h0 (by omega); have ih := ref_name_loop s hs d m (i + 1) (by omega) (by omega) (by omega); generalize bt s i = c
    by_cases h1 : c ≥ 97 <;> by_cases h2 : c ≤ 122 <;> by_cases h3 : c = 95 <;> by_cases h4 : c ≥ 48 <;> by_cases h5 : c ≤ 57 <;>
      first
      | omega
      | (simp [r3_Name.j2, h1, h2, h3, h4, h5, hw, ih, letter, digit]; done)
theorem ref_name {k : Nat} (hk : 40 ≤ k) (s : ByteArray) : r3_Name.f k s = some (nameOk s) := by
  obtain ⟨m, rfl⟩ : ∃ m, k = m + 1 := ⟨k - 1, by omega⟩
  unfold r3_Name.f nameOk
  by_cases h : (s.size : Int) = 0
  · rw [if_pos h]; have h0 : s.size = 0 := by omega
    simp [r3_Name.j0, h0]
  · rw [if_neg h]; have h0 : 0 < s.size := by omega
    by_cases h12 : (s.size : Int) > 12
    · rw [if_pos h12]; have : ¬ s.size ≤ 12 := by omega
      simp [r3_Name.j0, this]
    · rw [if_neg h12, if_pos (by omega)]; have h12' : s.size ≤ 12 := by omega
      have hl := ref_name_loop s h12' s.size m 0 (by omega) (by omega) (by omega); have hd : digit (bt s 0) = true → letter (bt s 0) = false := by simp [digit, letter]; omega
      have hn : letter (bt s 0) = false → digit (bt s 0) = false → nameFrom s 0 s.size = false := by
        intro h1 h2; obtain ⟨d, hd'⟩ : ∃ d, s.size = d + 1 := ⟨s.size - 1, by omega⟩
        rw [hd', nameFrom, h1, h2]; rfl
      by_cases h1 : bt s 0 ≥ 48
      · rw [if_pos h1]
        by_cases h2 : bt s 0 ≤ 57
        · have hdd : digit (bt s 0) = true := by simp [digit]; omega
          simp [r3_Name.j0, h2, hd hdd]
        · have hdd : digit (bt s 0) = false := by simp [digit]; omega
          simp only [r3_Name.j0, decide_eq_false h2, Bool.false_eq_true, if_false, hl, h0, h12', decide_true, Bool.true_and]
          cases hll : letter (bt s 0) with
          | true => rfl
          | false => rw [hn hll hdd]; rfl
      · rw [if_neg h1]; have hdd : digit (bt s 0) = false := by simp [digit]; omega
        simp only [r3_Name.j0, Bool.false_eq_true, if_false, hl, h0, h12', decide_true, Bool.true_and]
        cases hll : letter (bt s 0) with
        | true => rfl
        | false => rw [hn hll hdd]; rfl
def immOk (f imm : Int) (s : ByteArray) : Bool :=
  if target f = true then (if s.toList = [] then decide (0 ≤ imm ∧ imm ≤ 1023) else (imm == 0 && nameOk s))
  else if s.toList = [] then (if f = 3 ∨ f = 5 then fit14 imm else if f = 4 then fit18 imm else imm == 0)
  else (if f = 4 then (nameOk s && fit18 imm) else false)
def insOk (op d a b imm : Int) (s : ByteArray) : Bool :=
  decide (0 ≤ op ∧ op ≤ 33) && (regOk (hasD (formOf op)) d && (regOk (hasA (formOf op)) a && (regOk (hasB (formOf op)) b && immOk (formOf op) imm s)))
theorem isa_is (op : Int) : isa_Is.f op = some (decide (0 ≤ op ∧ op ≤ 33)) := by
  unfold isa_Is.f
  by_cases h : op ≥ 0
  · rw [if_pos h]; congr 1; by_cases h2 : op ≤ 33 <;> simp [h2] <;> omega
  · rw [if_neg h]; congr 1; symm; rw [decide_eq_false_iff_not]; omega
theorem ref_valid (op : Int) : r3_Valid.f op = some (decide (0 ≤ op ∧ op ≤ 33)) := by
  unfold r3_Valid.f r0_Between.f
  by_cases h : op ≥ 0
  · rw [if_pos h]; simp only [Option.bind_some]; congr 1; by_cases h2 : op ≤ 33 <;> simp [h2] <;> omega
  · rw [if_neg h]; simp only [Option.bind_some]; congr 1; symm; rw [decide_eq_false_iff_not]; omega
theorem form_cases (f : Int) (h0 : 0 ≤ f) (h1 : f ≤ 9) : f = 0 ∨ f = 1 ∨ f = 2 ∨ f = 3 ∨ f = 4 ∨ f = 5 ∨ f = 6 ∨ f = 7 ∨ f = 8 ∨ f = 9 := by omega
theorem isa_imm_eq {k : Nat} (hk : 50 ≤ k) (op d a b imm : Int) (s : ByteArray) (f : Int) (h0 : 0 ≤ f) (h1 : f ≤ 9) : isa_imm.f k op d a b imm s f = some (immOk f imm s) := by
  obtain ⟨m, rfl⟩ : ∃ m, k = m + 3 := ⟨k - 3, by omega⟩
  have hn := isa_name (k := m + 2) (by omega) s; have hb := isa_bits (k := m) (by omega) f h0 h1; unfold isa_imm.f immOk; rw [isa_target f h0 h1]; simp only [Option.bind_some]
  by_cases hs : s.toList = []
  · rcases form_cases f h0 h1 with rfl | rfl | rfl | rfl | rfl | rfl | rfl | rfl | rfl | rfl <;>
      simp [isa_imm.j0, isa_imm.j1, isa_imm.j2, target, hs, isa_Target.f, hb, bitsOf, within14, within18]
    all_goals
      by_cases h : 0 ≤ imm <;> simp [h] <;> omega
  · have hne : (s.toList != []) = true := by simpa using hs
    rcases form_cases f h0 h1 with rfl | rfl | rfl | rfl | rfl | rfl | rfl | rfl | rfl | rfl <;>
      simp [isa_imm.j0, isa_imm.j1, isa_imm.j2, target, hs, hn, isa_Target.f, hb, bitsOf, within14, within18]
    · cases nameOk s <;> simp
    · by_cases h : imm = 0 <;> simp [h]
    · by_cases h : imm = 0 <;> simp [h]
theorem isa_ins_eq {k : Nat} (hk : 50 ≤ k) (op d a b imm : Int) (s : ByteArray) : isa_IsIns.f k op d a b imm s = some (insOk op d a b imm s) := by
  unfold isa_IsIns.f insOk; rw [isa_is]; simp only [Option.bind_some]
  by_cases h : 0 ≤ op ∧ op ≤ 33
  · obtain ⟨f0, f1⟩ := formOf_range op h.1 h.2; rw [if_pos (by simp [h]), shape_eq (by omega) op h.1 h.2]; simp only [Option.bind_some, isa_hasD _ f0 f1, isa_hasA (show 10 ≤ k by omega) _ f0 f1, isa_hasB _ f0 f1, isa_reg_eq, isa_imm_eq hk op d a b imm s _ f0 f1]
    cases regOk (hasD (formOf op)) d <;> cases regOk (hasA (formOf op)) a <;> cases regOk (hasB (formOf op)) b <;> simp [h]
  · simp [h]
end
section
attribute [local go_sem] max2_int min2_int max_two min_two max_three min_three max_four min_four
end
section
attribute [local go_sem] max2_int min2_int max_two min_two max_three min_three max_four min_four
end
section
attribute [local go_sem] max2_int min2_int max_two min_two max_three min_three max_four min_four
end
section
def okI (x : S24) : Bool := insOk x.f0 x.f1 x.f2 x.f3 x.f4 x.f5
def endsOp (op : Int) : Bool := decide (28 ≤ op) && decide (op ≤ 33)
def plainI (x : S24) : Bool := okI x && (!endsOp x.f0 && (x.f0 != 0))
theorem ins_parts {op d a b imm : Int} {s : ByteArray} (h : insOk op d a b imm s = true) : (0 ≤ op ∧ op ≤ 33) ∧ regOk (hasD (formOf op)) d = true ∧ regOk (hasA (formOf op)) a = true ∧ regOk (hasB (formOf op)) b = true ∧ immOk (formOf op) imm s = true := by
  unfold insOk at h; simpa [and_assoc] using h
theorem reg_parts {has : Bool} {n : Int} (h : regOk has n = true) : 0 ≤ n ∧ n ≤ 15 ∧ (has = false → n = 0) := by
  unfold regOk at h
  cases has <;> simp at h ⊢ <;> omega
theorem ends_eq (op : Int) : isa_Ends.f op = some (endsOp op) := by
  unfold isa_Ends.f endsOp
  by_cases h : 28 ≤ op <;> simp [h]
theorem rends_eq (op : Int) : r3_Ends.f op = some (endsOp op) := by
  unfold r3_Ends.f r0_Between.f endsOp
  by_cases h : 28 ≤ op <;> simp [h]
theorem plain_eq {k : Nat} (hk : 60 ≤ k) (x : S24) : block_Plain.f k x.f0 x.f1 x.f2 x.f3 x.f4 x.f5 = some (plainI x) := by
  unfold block_Plain.f plainI okI; rw [isa_ins_eq (by omega)]; simp only [Option.bind_some, ends_eq]
  cases insOk x.f0 x.f1 x.f2 x.f3 x.f4 x.f5 <;> cases endsOp x.f0 <;> simp
theorem may1_eq {k : Nat} (hk : 60 ≤ k) (x : S24) : dag_May_1.f k x.f0 x.f1 x.f2 x.f3 x.f4 x.f5 = some (!plainI x) := by
  unfold dag_May_1.f; rw [plain_eq hk]; rfl
def allPlain (l : List S24) : Bool := l.all plainI
def mayL (l : List S24) : Bool := decide (l.length ≤ 200) && allPlain l
theorem rd_at (l : List S24) (i : Nat) (h : i < l.length) : J24 l (i : Int) = l[i] := by
  unfold J24; rw [Int.toNat_natCast, List.getD_eq_getElem?_getD, List.getElem?_eq_getElem h]; rfl
theorem wrap_at {n : Nat} (h : n ≤ 1000000000000) : wrap64 ((n : Int) + 1) = ((n + 1 : Nat) : Int) := by unfold wrap64; omega
theorem idx_loop (l : List S24) (hl : l.length ≤ 1000000000) : ∀ (d : Nat) (k i : Nat), i + d = l.length → 61 + d ≤ k →
    ∃ r, aI89_114089.l0 k l (l.length : Int) (i : Int) = some r ∧ (decide (r ≥ 0) = !((l.drop i).all plainI))
  | 0, k, i, hi, hk => by
    obtain ⟨k, rfl⟩ : ∃ k', k = k' + 1 := ⟨k - 1, by omega⟩
    refine ⟨-1, ?_, ?_⟩
    · unfold aI89_114089.l0; rw [if_neg (by omega)]
    · rw [List.drop_of_length_le (by omega)]; simp
  | d + 1, k, i, hi, hk => by
    obtain ⟨k, rfl⟩ : ∃ k', k = k' + 1 := ⟨k - 1, by omega⟩
    have hlt : i < l.length := by omega
    unfold aI89_114089.l0; rw [if_pos (by omega), if_pos (by omega), if_pos (by omega), may1_eq (by omega), wrap_at (by omega), rd_at l i hlt, List.drop_eq_getElem_cons hlt]; simp only [Option.bind_some, List.all_cons]
    cases hp : plainI l[i] with
    | false => exact ⟨_, rfl, by simp⟩
    | true =>
      simp only [Bool.not_true, Bool.false_eq_true, if_false, Bool.true_and]; exact idx_loop l hl d k (i + 1) (by omega) (by omega)
theorem may_eq {k : Nat} (l : List S24) (hl : l.length ≤ 1000000000) (hk : 300 ≤ k) : dag_May.f k l = some (mayL l) := by
  unfold dag_May.f mayL
  by_cases h : l.length ≤ 200
  · rw [if_pos (by omega)]; unfold aI89_88089.f aI89_114089.f; obtain ⟨r, h1, h2⟩ := idx_loop l hl l.length k 0 (by omega) (by omega); rw [show ((0 : Nat) : Int) = 0 from rfl] at h1; rw [h1]; simp only [Option.bind_some, h2, List.drop_zero]; unfold allPlain; simp [h]
  · rw [if_neg (by omega)]; simp [h]
def effOp (op : Int) : Bool := op == 16 || (op == 17 || ((decide (24 ≤ op) && decide (op ≤ 27)) || (decide (31 ≤ op) && decide (op ≤ 33))))
def lateOp (op : Int) : Int := if op = 14 ∨ op = 15 ∨ op = 26 then 2 else if op = 20 ∨ op = 24 then 3 else if op = 16 ∨ op = 17 then 4 else 1
theorem eff_eq {k : Nat} (hk : 5 ≤ k) (op : Int) (h0 : 0 ≤ op) (h1 : op ≤ 33) : isa_Effect.f k op = some (effOp op) :=
  at_rounds (isa_Effect.mono op) hk (upto34 (p := fun op => isa_Effect.f 5 op = some (effOp op)) (by decide) op h0 h1)
theorem late_eq {k : Nat} (hk : 5 ≤ k) (op : Int) (h0 : 0 ≤ op) (h1 : op ≤ 33) : isa_Late.f k op = some (lateOp op) :=
  at_rounds (isa_Late.mono op) hk (upto34 (p := fun op => isa_Late.f 5 op = some (lateOp op)) (by decide) op h0 h1)
theorem rlate_eq {k : Nat} (hk : 5 ≤ k) (op : Int) (h0 : 0 ≤ op) (h1 : op ≤ 33) : r3_Latency.f k op = some (lateOp op) :=
  at_rounds (r3_Latency.mono op) hk (upto34 (p := fun op => r3_Latency.f 5 op = some (lateOp op)) (by decide) op h0 h1)
def readsL (x : S24) : List Int := (if hasA (formOf x.f0) = true then [x.f2] else []) ++ (if hasB (formOf x.f0) = true then [x.f3] else [])
theorem readsL_len (x : S24) : (readsL x).length ≤ 2 := by
  unfold readsL
  cases hasA (formOf x.f0) <;> cases hasB (formOf x.f0) <;> simp
theorem read_eq {k : Nat} (hk : 12 ≤ k) (x : S24) (h0 : 0 ≤ x.f0) (h1 : x.f0 ≤ 33) : isa_Read.f k x.f0 x.f1 x.f2 x.f3 x.f4 x.f5 = some (readsL x) := by
  obtain ⟨k, rfl⟩ : ∃ k', k = k' + 1 := ⟨k - 1, by omega⟩
  obtain ⟨f0, f1⟩ := formOf_range x.f0 h0 h1; unfold isa_Read.f readsL; rw [shape_eq (by omega) _ h0 h1]; simp only [Option.bind_some]; rw [isa_hasA (by omega) _ f0 f1]; simp only [Option.bind_some]; unfold isa_Read.j0; simp only [isa_hasB _ f0 f1, Option.bind_some]
  cases hasA (formOf x.f0) <;> cases hasB (formOf x.f0) <;> simp
def rdsP (x y : S24) : Bool := hasD (formOf y.f0) && (readsL x).any (fun r => y.f1 == r)
theorem writes_eq {k : Nat} (hk : 12 ≤ k) (y : S24) (r : Int) (h0 : 0 ≤ y.f0) (h1 : y.f0 ≤ 33) : dag_writes.f k y.f0 y.f1 y.f2 y.f3 y.f4 y.f5 r = some (hasD (formOf y.f0) && y.f1 == r) := by
  obtain ⟨f0, f1⟩ := formOf_range y.f0 h0 h1; unfold dag_writes.f; rw [shape_eq (by omega) _ h0 h1]; simp only [Option.bind_some, isa_hasD _ f0 f1]
  cases hasD (formOf y.f0) <;> simp
theorem reads1_eq {k : Nat} (hk : 12 ≤ k) (y : S24) (r : Int) (h0 : 0 ≤ y.f0) (h1 : y.f0 ≤ 33) : dag_reads_1.f k r y.f0 y.f1 y.f2 y.f3 y.f4 y.f5 = some (hasD (formOf y.f0) && y.f1 == r, y.f0, y.f1, y.f2, y.f3, y.f4, y.f5) := by
  unfold dag_reads_1.f; rw [writes_eq hk y r h0 h1]; rfl
theorem index_loop (rs : List Int) (hl : rs.length ≤ 1000) (y : S24) (h0 : 0 ≤ y.f0) (h1 : y.f0 ≤ 33) : ∀ (d : Nat) (k i : Nat), i + d = rs.length → 13 + d ≤ k →
    ∃ r, sI_121.l0 k rs (rs.length : Int) (i : Int) y.f0 y.f1 y.f2 y.f3 y.f4 y.f5 = some (r, y.f0, y.f1, y.f2, y.f3, y.f4, y.f5) ∧ (decide (r ≥ 0) = (hasD (formOf y.f0) && (rs.drop i).any (fun r => y.f1 == r)))
  | 0, k, i, hi, hk => by
    obtain ⟨k, rfl⟩ : ∃ k', k = k' + 1 := ⟨k - 1, by omega⟩
    refine ⟨-1, ?_, ?_⟩
    · unfold sI_121.l0; rw [if_neg (by omega)]
    · rw [List.drop_of_length_le (by omega)]; simp
  | d + 1, k, i, hi, hk => by
    obtain ⟨k, rfl⟩ : ∃ k', k = k' + 1 := ⟨k - 1, by omega⟩
    have hlt : i < rs.length := by omega
    have hr : rd rs (i : Int) = rs[i] := by
      unfold rd; rw [Int.toNat_natCast, List.getD_eq_getElem?_getD, List.getElem?_eq_getElem hlt]; rfl
    unfold sI_121.l0; rw [if_pos (by omega), if_pos (by omega), if_pos (by omega), reads1_eq (by omega) y _ h0 h1, wrap_at (by omega), hr, List.drop_eq_getElem_cons hlt]; simp only [Option.bind_some, List.any_cons]; obtain ⟨r, h2, h3⟩ := index_loop rs hl y h0 h1 d k (i + 1) (by omega) (by omega)
    cases hd : hasD (formOf y.f0) with
    | false =>
      rw [hd] at h3; simp only [Bool.false_and, Bool.false_eq_true, if_false]
      exact ⟨r, h2, by simpa using h3⟩
    | true =>
      rw [hd] at h3
      cases hp : (y.f1 == rs[i]) with
      | false =>
        simp only [Bool.and_false, Bool.false_eq_true, if_false, Bool.true_and, Bool.false_or]
        exact ⟨r, h2, by simpa using h3⟩
      | true => exact ⟨(i : Int), by simp, by simp⟩
theorem reads_eq {k : Nat} (hk : 30 ≤ k) (x y : S24) (hx : 0 ≤ x.f0 ∧ x.f0 ≤ 33) (hy : 0 ≤ y.f0 ∧ y.f0 ≤ 33) : dag_reads.f k x.f0 x.f1 x.f2 x.f3 x.f4 x.f5 y.f0 y.f1 y.f2 y.f3 y.f4 y.f5 = some (rdsP x y) := by
  unfold dag_reads.f rdsP; rw [read_eq (by omega) x hx.1 hx.2]; simp only [Option.bind_some]; unfold sC_121.f sI_121.f; obtain ⟨r, h1, h2⟩ := index_loop (readsL x) (by have := readsL_len x; omega) y hy.1 hy.2 (readsL x).length k 0 (by omega) (by have := readsL_len x; omega); rw [show ((0 : Nat) : Int) = 0 from rfl] at h1; rw [h1]; simp only [Option.bind_some, List.drop_zero] at h2 ⊢; rw [h2]
def dist (x y : S24) : Int :=
  let d := if effOp x.f0 = true ∧ effOp y.f0 = true then 1 else if rdsP x y = true then 0 else -1
  if rdsP y x = true ∨ (hasD (formOf y.f0) = true ∧ hasD (formOf x.f0) = true ∧ x.f1 = y.f1) then mx d (lateOp x.f0) else d
theorem dist_eq {k : Nat} (hk : 40 ≤ k) (x y : S24) (hx : 0 ≤ x.f0 ∧ x.f0 ≤ 33) (hy : 0 ≤ y.f0 ∧ y.f0 ≤ 33) : dag_dist.f k x.f0 x.f1 x.f2 x.f3 x.f4 x.f5 y.f0 y.f1 y.f2 y.f3 y.f4 y.f5 = some (dist x y) := by
  obtain ⟨k, rfl⟩ : ∃ k', k = k' + 4 := ⟨k - 4, by omega⟩
  obtain ⟨f0, f1⟩ := formOf_range y.f0 hy.1 hy.2; unfold dag_dist.f dag_dist.j0 dag_dist.j1 dag_dist.j2 dag_dist.j3; rw [reads_eq (by omega) x y hx hy]; simp only [Option.bind_some]; rw [eff_eq (by omega) _ hx.1 hx.2, eff_eq (by omega) _ hy.1 hy.2, reads_eq (by omega) y x hy hx, shape_eq (by omega) _ hy.1 hy.2]; simp only [Option.bind_some, isa_hasD _ f0 f1]; rw [writes_eq (by omega) x _ hx.1 hx.2, late_eq (by omega) _ hx.1 hx.2]; unfold dist
  cases rdsP x y <;> cases effOp x.f0 <;> cases effOp y.f0 <;> cases rdsP y x <;> cases hasD (formOf y.f0) <;> cases hasD (formOf x.f0) <;> by_cases h : x.f1 = y.f1 <;> simp [h]
theorem okI_op {x : S24} (h : okI x = true) : 0 ≤ x.f0 ∧ x.f0 ≤ 33 := (ins_parts h).1
def edgesSeg (l : List S24) (i : Nat) : Nat → Nat → List S51
  | _, 0 => []
  | j, d + 1 => (if 0 ≤ dist (J24 l i) (J24 l j) then [(⟨(i : Int), (j : Int), dist (J24 l i) (J24 l j)⟩ : S51)] else []) ++ edgesSeg l i (j + 1) d
def edgesFrom (l : List S24) (i : Nat) : List S51 := edgesSeg l i (i + 1) (l.length - (i + 1))
def edgesUp (l : List S24) : Nat → Nat → List S51
  | _, 0 => []
  | i, d + 1 => edgesFrom l i ++ edgesUp l (i + 1) d
theorem edgesUp_succ (l : List S24) (i d : Nat) : edgesUp l i (d + 1) = edgesFrom l i ++ edgesUp l (i + 1) d := rfl
def edges (l : List S24) : List S51 := edgesUp l 0 l.length
theorem edgesSeg_len (l : List S24) (i : Nat) : ∀ (d j : Nat), (edgesSeg l i j d).length ≤ d
  | 0, _ => by simp [edgesSeg]
  | d + 1, j => by
    have := edgesSeg_len l i d (j + 1); unfold edgesSeg; split <;> simp <;> omega
def okL (l : List S24) : Prop := ∀ i : Nat, i < l.length → okI (J24 l i) = true
theorem rd_drop (l : List S24) (i j : Nat) (h : i + j < l.length) : J24 (l.drop i) (j : Int) = J24 l ((i + j : Nat) : Int) := by
  rw [rd_at _ _ (by simp; omega), rd_at _ _ h]; simp
theorem own_l1 (l : List S24) (hl : l.length ≤ 1000) (ho : okL l) (i : Nat) (hi : i < l.length) : ∀ (d k : Nat) (acc : List S51) (j : Nat), 50 ≤ k → i + 1 + j + d = l.length → acc.length + d ≤ 1000000000 →
    dag_Edges.l1 (k + d + 1) l acc (i : Int) l (l.length : Int) (i : Int) (l.drop (i + 1)) ((l.drop (i + 1)).length : Int) (j : Int) (J24 l i).f0 (J24 l i).f1 (J24 l i).f2 (J24 l i).f3 (J24 l i).f4 (J24 l i).f5 = dag_Edges.l0 k l (acc ++ edgesSeg l i (i + 1 + j) d) l (l.length : Int) ((i + 1 : Nat) : Int)
  | 0, k, acc, j, hk, hj, hb => by
    unfold dag_Edges.l1; rw [if_neg (by rw [List.length_drop]; omega), wrap_at (by omega)]
    simp [edgesSeg]
  | d + 1, k, acc, j, hk, hj, hb => by
    have hlt : i + 1 + j < l.length := by omega
    rw [show k + (d + 1) + 1 = (k + d + 1) + 1 by omega]; unfold dag_Edges.l1; rw [if_pos (by rw [List.length_drop]; omega), if_pos (by omega), if_pos (by rw [List.length_drop]; omega), rd_drop l (i + 1) j (by omega), dist_eq (by omega) _ _ (okI_op (ho i hi)) (okI_op (ho _ hlt)), wrap_at (n := j) (by omega), wrap_at (n := i) (by omega)]; simp only [Option.bind_some]; have e1 : wrap64 (((i + 1 : Nat) : Int) + (j : Int)) = ((i + 1 + j : Nat) : Int) := by unfold wrap64; omega
    rw [e1]; unfold edgesSeg
    by_cases h : 0 ≤ dist (J24 l i) (J24 l ((i + 1 + j : Nat) : Int))
    · rw [if_pos h, if_pos (by omega), if_pos h, own_l1 l hl ho i hi d k _ (j + 1) hk (by omega) (by simp; omega)]; simp [Nat.add_assoc]
    · rw [if_neg h, if_neg h, own_l1 l hl ho i hi d k _ (j + 1) hk (by omega) (by omega)]; simp [Nat.add_assoc]
theorem own_l0 (l : List S24) (hl : l.length ≤ 1000) (ho : okL l) : ∀ (d k : Nat) (acc : List S51) (i : Nat), i + d = l.length → 60 + d * (l.length + 2) ≤ k → acc.length + d * l.length ≤ 100000000 →
    dag_Edges.l0 k l acc l (l.length : Int) (i : Int) = some (acc ++ edgesUp l i d)
  | 0, k, acc, i, hi, hk, hb => by
    obtain ⟨k, rfl⟩ : ∃ k', k = k' + 1 := ⟨k - 1, by omega⟩
    unfold dag_Edges.l0; rw [if_neg (by omega)]
    simp [edgesUp]
  | d + 1, k, acc, i, hi, hk, hb => by
    have e1 : (d + 1) * (l.length + 2) = d * (l.length + 2) + (l.length + 2) := Nat.succ_mul _ _; have e2 : (d + 1) * l.length = d * l.length + l.length := Nat.succ_mul _ _; obtain ⟨k, rfl⟩ : ∃ k', k = (k' + (l.length - (i + 1)) + 1) + 1 := ⟨k - (l.length - (i + 1)) - 2, by omega⟩
    unfold dag_Edges.l0; rw [if_pos (by omega), if_pos (by omega), if_pos (by omega), wrap_at (by omega), if_pos (by omega), if_pos (by omega)]; simp only [Option.bind_some, Int.toNat_natCast]; have h4 := own_l1 l hl ho i (by omega) (l.length - (i + 1)) k acc 0 (by omega) (by omega) (by omega); rw [show ((0 : Nat) : Int) = 0 from rfl] at h4; rw [h4]; have h3 := edgesSeg_len l i (l.length - (i + 1)) (i + 1); rw [own_l0 l hl ho d k _ (i + 1) (by omega) (by omega) (by simp; omega)]; rw [edgesUp_succ]; unfold edgesFrom; simp
theorem own_edges {k : Nat} (l : List S24) (hl : l.length ≤ 200) (ho : okL l) (hk : 50000 ≤ k) : dag_Edges.f k l = some (edges l) := by
  have hm : l.length * (l.length + 2) ≤ 200 * 202 := Nat.mul_le_mul hl (by omega); have hm2 : l.length * l.length ≤ 200 * 200 := Nat.mul_le_mul hl hl; unfold dag_Edges.f edges; rw [show (0 : Int) = ((0 : Nat) : Int) from rfl, own_l0 l (by omega) ho l.length k [] 0 (by omega) (by omega) (by simp; omega)]; simp
end
section
attribute [local go_sem] max2_int min2_int max_two min_two max_three min_three max_four min_four
theorem eqA24 (d : Nat) (w : World) (x0 y0 : Int) (x1 y1 : Int) (x2 y2 : Int) (x3 y3 : Int) (x4 y4 : Int) (x5 y5 : ByteArray) :
    (Op.equalIn (d + 2) 24 (.agg #[.int .i64 x0, .int .i64 x1, .int .i64 x2, .int .i64 x3, .int .i64 x4, .string x5]) (.agg #[.int .i64 y0, .int .i64 y1, .int .i64 y2, .int .i64 y3, .int .i64 y4, .string y5])).run Try.prog w = .ok (x0 == y0 && (x1 == y1 && (x2 == y2 && (x3 == y3 && (x4 == y4 && (x5.toList == y5.toList)))))) w := by
 refine eqA_of Try.underlying24 (by kernel_rfl) ?_; refine eqf_cons (by rfl) (by go_simp; rfl) (by go_simp; rfl) (by go_simp) ?_; refine eqf_cons (by rfl) (by go_simp; rfl) (by go_simp; rfl) (by go_simp) ?_; refine eqf_cons (by rfl) (by go_simp; rfl) (by go_simp; rfl) (by go_simp) ?_; refine eqf_cons (by rfl) (by go_simp; rfl) (by go_simp; rfl) (by go_simp) ?_; refine eqf_cons (by rfl) (by go_simp; rfl) (by go_simp; rfl) (by go_simp) ?_; exact eqf_last (by rfl) (by go_simp; rfl) (by go_simp; rfl) (by go_simp)
end
end Go.Proofs.Ytibfkkjkahpobaa.PDag
