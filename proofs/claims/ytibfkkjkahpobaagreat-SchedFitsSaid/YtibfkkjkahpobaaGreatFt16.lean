import Derived.Test.YtibfkkjkahpobaaGreatFt15
import Derived.Test.YtibfkkjkahpobaaGreatFt1
import Derived.Calls
import Derived.Control
import Derived.Orders
import Derived.Tactics
import Derived.KernelRfl
import Derived.Test.YtibfkkjkahpobaaGreatProg
set_option linter.unusedVariables false
set_option linter.unusedSimpArgs false
set_option maxHeartbeats 8000000
set_option maxRecDepth 100000
open Go.RowKit Go.Proofs.YtibfkkjkahpobaaGreatW.PrintWords Go.Proofs.YtibfkkjkahpobaaGreatW.PrintLast Go.Proofs.YtibfkkjkahpobaaGreatW.PrintMore
namespace Go.Proofs.YtibfkkjkahpobaaGreat.PDag
section
attribute [local go_sem] max2_int min2_int max_two min_two max_three min_three max_four min_four
def isa_letter.f (a0 : Int) : Option (Bool) := if a0 = 95 then (some true) else (if a0 ≥ 97 then (some (decide (a0 ≤ 122))) else (some false))
theorem isa_letter.calls (a0 : Int) (r : Bool) (w : World) (h : isa_letter.f a0 = some r) :
    Calls Tryz.prog 87 #[.int .u8 a0] w fun e w' => e = .returned (.bool r) ∧ Dr_ w w' := by
 have H : (if a0 = 95 then (some true) else (if a0 ≥ 97 then (some (decide (a0 ≤ 122))) else (some false))) = some r := h; clear h
 by_cases c2 : a0 = 95
 ·rw [if_pos c2] at H; have c2b0 := bH_ c2; have c2b1 := bF_ c2; clear c2; obtain rfl := oI_ H; go_enter Tryz.func87, Tryz.ntmps87; go_wp2; go_ret; exact ⟨eQ_, dR_⟩
 rw [if_neg c2] at H; have c2b0 := bE_ c2; have c2b1 := bG_ c2
 by_cases c3 : a0 ≥ 97
 ·rw [if_pos c3] at H; have c3b0 := dE_ c3; clear c3; obtain rfl := oI_ H; go_enter Tryz.func87, Tryz.ntmps87; go_wp2; go_ret; exact ⟨eQ_, dR_⟩
 rw [if_neg c3] at H; have c3b0 := dF_ c3; clear c3; obtain rfl := oI_ H; go_enter Tryz.func87, Tryz.ntmps87; go_wp2; go_ret; exact ⟨eQ_, dR_⟩
mutual
def isa_Name2.j0 : Nat → ByteArray → Bool → Option (Bool)
  | 0, _, _ => none
  | k + 1, x0, x17 => if x17 = true then (some false) else (isa_Name2.l0 k x0 (x0.size : Int) 0)
def isa_Name2.l0 : Nat → ByteArray → Int → Int → Option (Bool)
  | 0, _, _, _ => none
  | k + 1, x0, x19, x20 => if x20 < x19 then (if 0 ≤ x20 then (if x20 < (x0.size : Int) then ((isa_letter.f (bt x0 x20)).bind fun t224 => (if t224 = true then (isa_Name2.j2 k x0 x19 x20 false) else (if (bt x0 x20) < 48 then (isa_Name2.j2 k x0 x19 x20 true) else (isa_Name2.j2 k x0 x19 x20 (decide ((bt x0 x20) > 57)))))) else (none)) else (none)) else (some true)
def isa_Name2.j2 : Nat → ByteArray → Int → Int → Bool → Option (Bool)
  | 0, _, _, _, _ => none
  | k + 1, x0, x19, x20, x36 => if x36 = true then (some false) else (isa_Name2.l0 k x0 x19 (wrap64 (x20 + 1)))
end
def isa_Name2.f (k : Nat) (a0 : ByteArray) : Option (Bool) := if a0.toList = ([] : List UInt8) then (isa_Name2.j0 k a0 true) else (if (a0.size : Int) > 12 then (isa_Name2.j0 k a0 true) else (if 0 < (a0.size : Int) then ((isa_letter.f (bt a0 0)).bind fun t223 => (isa_Name2.j0 k a0 (!t223))) else (none)))
theorem isa_Name2.calls (k : Nat) (a0 : ByteArray) (r : Bool) (w : World) (h : isa_Name2.f k a0 = some r) :
    Calls Tryz.prog 55 #[.string a0] w fun e w' => e = .returned (.bool r) ∧ Dr_ w w' := by
 have H : (if a0.toList = ([] : List UInt8) then (isa_Name2.j0 k a0 true) else (if (a0.size : Int) > 12 then (isa_Name2.j0 k a0 true) else (if 0 < (a0.size : Int) then ((isa_letter.f (bt a0 0)).bind fun t223 => (isa_Name2.j0 k a0 (!t223))) else (none)))) = some r := h; clear h; have HC2 := aM_ H; clear H; go_enter Tryz.func55, Tryz.ntmps55
 go_upto_region 1 with (fail)
 go_cut [17] (fun v17 wc => ∃ (kq : Nat) (x17_1 : Bool), v17 = .bool x17_1 ∧ As_ (isa_Name2.j0 kq a0 x17_1 = some r) ∧ As_ (kq ≤ k) ∧ Dr_ w wc)
 case first =>
  have H := HC2.out; clear HC2
  by_cases c3 : a0.toList = ([] : List UInt8)
  ·rw [if_pos c3] at H; have c3b0 := bH_ c3; have c3b1 := bF_ c3; clear c3
   (first | rw [c3b0] | (simp only [i64_w, i32_w]; rw [c3b0]) | skip)
   replace H := aM_ H; go_wp2
   go_meet
   case rel => exact ⟨_, (true), eQ_, H, ⟨by first | omega | exact Nat.le_refl _⟩, dR_⟩
  rw [if_neg c3] at H; have c3b0 := bE_ c3; have c3b1 := bG_ c3
  (first | rw [c3b0] | (simp only [i64_w, i32_w]; rw [c3b0]) | skip)
  by_cases c4 : (a0.size : Int) > 12
  ·rw [if_pos c4] at H; have c4b0 := dE_ c4; have c4b1 : decide (12 < a0.size) = true := decide_eq_true (by omega); clear c4; replace H := aM_ H; go_wp2
   go_meet
   case rel => exact ⟨_, (true), eQ_, H, ⟨by first | omega | exact Nat.le_refl _⟩, dR_⟩
  rw [if_neg c4] at H; have c4b0 := dF_ c4; have c4b1 : decide (12 < a0.size) = false := decide_eq_false (by omega); clear c4
  by_cases c5 : 0 < (a0.size : Int)
  ·rw [if_pos c5] at H; have c5b0 := dE_ c5; have c5b1 : decide (0 < a0.size) = true := decide_eq_true (by omega); clear c5; obtain ⟨t223, A7, H⟩ := oB_ H; replace H := aM_ H; have p6 : 0 ≤ (0 : Int) := (by omega)
   have q6 : 0 < a0.size := (by have : (0 : Int) < (a0.size : Int) := oD_; omega)
   have hx6 : ∀ h : 0 < a0.size, ((a0[0]'h).toNat : Int) = bt a0 0 := bt_at a0 0; clear p6; have qi6 : (0 < (a0.size : Int)) = True := eq_true (oD_); replace q6 := eq_true q6
   go_wp2_with (first | (go_at_call 87; (with_reducible refine (isa_letter.calls (bt a0 0) t223 _ A7.out).mono ?_); rintro e w' ⟨rfl, ⟨nd, rfl⟩⟩))
   go_meet
   case rel => exact ⟨_, (!t223), eQ_, H, ⟨by first | omega | exact Nat.le_refl _⟩, dR_⟩
  rw [if_neg c5] at H; exact absurd H (by simp)
 case rest =>
  clear HC2; obtain ⟨kq, x17_1, rfl, HA, HJ1, ⟨mc1, rfl⟩⟩ := hcut
  cases kq with
  | zero => exact absurd HA.out (by simp [isa_Name2.j0])
  | succ kj1 =>
   have H := HA.out; clear HA; simp only [isa_Name2.j0] at H
   by_cases c8 : x17_1 = true
   ·subst c8; rw [if_pos rfl] at H; obtain rfl := oI_ H; go_wp2; go_ret; exact ⟨eQ_, dR_⟩
   replace c8 := eF_ c8; subst c8; rw [if_neg Bool.false_ne_true] at H; replace H := aM_ H; go_wp2
   go_loopg [20] kj1 (fun kq v20 w' => ∃ (x20_2 : Int), v20 = .int .i64 x20_2 ∧ As_ (isa_Name2.l0 kq a0 (a0.size : Int) x20_2 = some r) ∧ As_ (kq ≤ kj1) ∧ Dr_ w w')
   case atStart => exact ⟨(0), eQ_, H, ⟨Nat.le_refl _⟩, dR_⟩
   case round =>
    clear H; obtain ⟨x20_2, rfl, HA, HK2, ⟨m2, rfl⟩⟩ := hrel
    cases gk with
    | zero => exact absurd HA.out (by simp [isa_Name2.l0])
    | succ k2 =>
     have H := HA.out; clear HA; simp only [isa_Name2.l0] at H
     by_cases c9 : x20_2 < (a0.size : Int)
     ·rw [if_pos c9] at H; have c9b0 := dE_ c9; clear c9
      by_cases c10 : 0 ≤ x20_2
      ·rw [if_pos c10] at H; have c10b0 := dE_ c10; clear c10
       by_cases c11 : x20_2 < (a0.size : Int)
       ·rw [if_pos c11] at H; have c11b0 := dE_ c11; clear c11; have HC13 := aM_ H; clear H; have p12 : 0 ≤ (x20_2 : Int) := oD_; have q12 : x20_2 < (a0.size : Int) := oD_; have hx12 := bt_at a0 x20_2; replace p12 := eq_true p12; replace q12 := eq_true q12
        go_upto_region 7 with (fail)
        go_cut [36] (fun v36 wc => ∃ (kq : Nat) (x36_12 : Bool), v36 = .bool x36_12 ∧ As_ (isa_Name2.j2 kq a0 (a0.size : Int) x20_2 x36_12 = some r) ∧ As_ (kq ≤ k2) ∧ Dr_ w wc)
        case first =>
         have H := HC13.out; clear HC13; obtain ⟨t224, A14, H⟩ := oB_ H
         by_cases c15 : t224 = true
         ·subst c15; rw [if_pos rfl] at H; replace H := aM_ H
          go_wp2_with (first | ((with_reducible refine gC_ (f := 87) rfl ?_); refine gL_ (some 27) Tryz.func87 #[.int .u8 (bt a0 x20_2)] rfl ?_; (with_reducible refine (isa_letter.calls (bt a0 x20_2) true _ A14.out).mono ?_); rintro e w' ⟨rfl, ⟨nd, rfl⟩⟩; refine ⟨_, rfl, ?_⟩))
          go_meet
          case rel => exact ⟨_, (false), eQ_, H, ⟨by have := HJ1.out; have := HK2.out; first | omega | exact Nat.le_refl _⟩, dR_⟩
         replace c15 := eF_ c15; subst c15; rw [if_neg Bool.false_ne_true] at H
         by_cases c16 : (bt a0 x20_2) < 48
         ·rw [if_pos c16] at H; have c16b0 := dE_ c16; clear c16
          (first | rw [c16b0] | (simp only [i64_w, i32_w]; rw [c16b0]) | skip)
          replace H := aM_ H
          go_wp2_with (first | ((with_reducible refine gC_ (f := 87) rfl ?_); refine gL_ (some 27) Tryz.func87 #[.int .u8 (bt a0 x20_2)] rfl ?_; (with_reducible refine (isa_letter.calls (bt a0 x20_2) false _ A14.out).mono ?_); rintro e w' ⟨rfl, ⟨nd, rfl⟩⟩; refine ⟨_, rfl, ?_⟩))
          go_meet
          case rel => exact ⟨_, (true), eQ_, H, ⟨by have := HJ1.out; have := HK2.out; first | omega | exact Nat.le_refl _⟩, dR_⟩
         rw [if_neg c16] at H; have c16b0 := dF_ c16; clear c16
         (first | rw [c16b0] | (simp only [i64_w, i32_w]; rw [c16b0]) | skip)
         replace H := aM_ H
         go_wp2_with (first | ((with_reducible refine gC_ (f := 87) rfl ?_); refine gL_ (some 27) Tryz.func87 #[.int .u8 (bt a0 x20_2)] rfl ?_; (with_reducible refine (isa_letter.calls (bt a0 x20_2) false _ A14.out).mono ?_); rintro e w' ⟨rfl, ⟨nd, rfl⟩⟩; refine ⟨_, rfl, ?_⟩))
         go_meet
         case rel => exact ⟨_, (decide ((bt a0 x20_2) > 57)), eQ_, H, ⟨by have := HJ1.out; have := HK2.out; first | omega | exact Nat.le_refl _⟩, dR_⟩
        case rest =>
         clear HC13; obtain ⟨kq, x36_12, rfl, HA, HJ12, ⟨mc12, rfl⟩⟩ := hcut
         cases kq with
         | zero => exact absurd HA.out (by simp [isa_Name2.j2])
         | succ kj12 =>
          have H := HA.out; clear HA; simp only [isa_Name2.j2] at H
          by_cases c17 : x36_12 = true
          ·subst c17; rw [if_pos rfl] at H; obtain rfl := oI_ H; go_wp2; go_ret; exact ⟨eQ_, dR_⟩
          replace c17 := eF_ c17; subst c17; rw [if_neg Bool.false_ne_true] at H; replace H := aM_ H; go_wp2
          go_roundg kj12
          case measure => have := HJ1.out; have := HK2.out; have := HJ12.out; omega
          case rel => exact ⟨(wrap64 (x20_2 + 1)), eQ_, H, ⟨by have := HJ1.out; have := HK2.out; have := HJ12.out; omega⟩, dR_⟩
       rw [if_neg c11] at H; exact absurd H (by simp)
      rw [if_neg c10] at H; exact absurd H (by simp)
     rw [if_neg c9] at H; have c9b0 := dF_ c9; clear c9; obtain rfl := oI_ H; go_wp2; go_ret; exact ⟨eQ_, dR_⟩
def isa_Is.f (a0 : Int) : Option (Bool) := if a0 ≥ 0 then (some (decide (a0 ≤ 33))) else (some false)
theorem isa_Is.calls (a0 : Int) (r : Bool) (w : World) (h : isa_Is.f a0 = some r) :
    Calls Tryz.prog 83 #[.int .i64 a0] w fun e w' => e = .returned (.bool r) ∧ Dr_ w w' := by
 have H : (if a0 ≥ 0 then (some (decide (a0 ≤ 33))) else (some false)) = some r := h; clear h
 by_cases c2 : a0 ≥ 0
 ·rw [if_pos c2] at H; have c2b0 := dE_ c2; clear c2; obtain rfl := oI_ H; go_enter Tryz.func83, Tryz.ntmps83; go_wp2; go_ret; exact ⟨eQ_, dR_⟩
 rw [if_neg c2] at H; have c2b0 := dF_ c2; clear c2; obtain rfl := oI_ H; go_enter Tryz.func83, Tryz.ntmps83; go_wp2; go_ret; exact ⟨eQ_, dR_⟩
def isa_reg.f (a0 : Bool) (a1 : Int) : Option (Bool) := if a1 = 0 then (some true) else (if a0 = true then (if a1 > 0 then (some (decide (a1 < 16))) else (some false)) else (some false))
theorem isa_reg.calls (a0 : Bool) (a1 : Int) (r : Bool) (w : World) (h : isa_reg.f a0 a1 = some r) :
    Calls Tryz.prog 90 #[.bool a0, .int .i64 a1] w fun e w' => e = .returned (.bool r) ∧ Dr_ w w' := by
 have H : (if a1 = 0 then (some true) else (if a0 = true then (if a1 > 0 then (some (decide (a1 < 16))) else (some false)) else (some false))) = some r := h; clear h
 by_cases c3 : a1 = 0
 ·rw [if_pos c3] at H; have c3b0 := bH_ c3; have c3b1 := bF_ c3; clear c3; obtain rfl := oI_ H; go_enter Tryz.func90, Tryz.ntmps90; go_wp2; go_ret; exact ⟨eQ_, dR_⟩
 rw [if_neg c3] at H; have c3b0 := bE_ c3; have c3b1 := bG_ c3
 by_cases c4 : a0 = true
 ·subst c4; rw [if_pos rfl] at H
  by_cases c5 : a1 > 0
  ·rw [if_pos c5] at H; have c5b0 := dE_ c5; clear c5; obtain rfl := oI_ H; go_enter Tryz.func90, Tryz.ntmps90; go_wp2; go_ret; exact ⟨eQ_, dR_⟩
  rw [if_neg c5] at H; have c5b0 := dF_ c5; clear c5; obtain rfl := oI_ H; go_enter Tryz.func90, Tryz.ntmps90; go_wp2; go_ret; exact ⟨eQ_, dR_⟩
 replace c4 := eF_ c4; subst c4; rw [if_neg Bool.false_ne_true] at H; obtain rfl := oI_ H; go_enter Tryz.func90, Tryz.ntmps90; go_wp2; go_ret; exact ⟨eQ_, dR_⟩
def word_Within.f (a0 : Int) (a1 : Int) : Option (Bool) := if 0 ≤ (wrap64 (a1 - 1)) then (if a0 ≥ (shl .i64 (-1) (wrap64 (a1 - 1))) then (some (decide (a0 < (shl .i64 1 (wrap64 (a1 - 1)))))) else (some false)) else (none)
theorem word_Within.calls (a0 : Int) (a1 : Int) (r : Bool) (w : World) (h : word_Within.f a0 a1 = some r) :
    Calls Tryz.prog 105 #[.int .i64 a0, .int .i64 a1] w fun e w' => e = .returned (.bool r) ∧ Dr_ w w' := by
 have H : (if 0 ≤ (wrap64 (a1 - 1)) then (if a0 ≥ (shl .i64 (-1) (wrap64 (a1 - 1))) then (some (decide (a0 < (shl .i64 1 (wrap64 (a1 - 1)))))) else (some false)) else (none)) = some r := h; clear h; obtain ⟨ji3, hji3⟩ : ∃ j_ : Int, (wrap64 (a1 - 1)) = j_ := ⟨_, rfl⟩
 replace H : (if 0 ≤ (ji3) then (if a0 ≥ (shl .i64 (-1) (ji3)) then (some (decide (a0 < (shl .i64 1 (ji3))))) else (some false)) else (none)) = some r := by first | (rw [hji3] at H; exact H) | (simp only [hji3] at H ⊢; exact H)
 have hji3w : (IntKind.i64.wrap (a1 - 1)) = ji3 := (i64_w _).trans hji3
 by_cases c4 : 0 ≤ (ji3)
 ·rw [if_pos c4] at H; have c4b0 := eq_true c4; have c4b1 := dE_ c4; clear c4; obtain ⟨ji5, hji5⟩ : ∃ j_ : Int, (shl .i64 (-1) (ji3)) = j_ := ⟨_, rfl⟩
  replace H : (if a0 ≥ (ji5) then (some (decide (a0 < (shl .i64 1 (ji3))))) else (some false)) = some r := by first | (rw [hji5] at H; exact H) | (simp only [hji5] at H ⊢; exact H)
  have hji5_ : (IntKind.i64.wrap ((-1) * 2 ^ min (ji3).toNat 64)) = ji5 := hji5; have hji5z : (ji3) ≤ 64 → (IntKind.i64.wrap ((-1) * 2 ^ (ji3).toNat)) = ji5 := shl_small hji5; have hji5U : (IntKind.i64.wrap (-2 ^ min (ji3).toNat 64)) = ji5 := by have h_ := hji5_; rw [Int.neg_mul, Int.one_mul] at h_; exact h_
  have hji5V : (wrap64 (-2 ^ min (ji3).toNat 64)) = ji5 := (i64_w _).symm.trans hji5U; have hji5y : (wrap64 ((-1) * 2 ^ min (ji3).toNat 64)) = ji5 := (i64_w _).symm.trans hji5_; have hji5x : (ji3) ≤ 64 → (wrap64 ((-1) * 2 ^ (ji3).toNat)) = ji5 := fun h_ => (i64_w _).symm.trans (hji5z h_)
  by_cases c6 : a0 ≥ (ji5)
  ·rw [if_pos c6] at H; have c6b0 := dE_ c6; clear c6; have c7b0 := eq_true (oD_ : 0 ≤ (ji3)); obtain ⟨ji8, hji8⟩ : ∃ j_ : Int, (shl .i64 1 (ji3)) = j_ := ⟨_, rfl⟩
   replace H : (some (decide (a0 < (ji8)))) = some r := by first | (rw [hji8] at H; exact H) | (simp only [hji8] at H ⊢; exact H)
   have hji8_ : (IntKind.i64.wrap (1 * 2 ^ min (ji3).toNat 64)) = ji8 := hji8; have hji8z : (ji3) ≤ 64 → (IntKind.i64.wrap (1 * 2 ^ (ji3).toNat)) = ji8 := shl_small hji8; have hji8u : (IntKind.i64.wrap (2 ^ min (ji3).toNat 64)) = ji8 := by have h_ := hji8_; rw [Int.one_mul] at h_; exact h_
   have hji8v : (ji3) ≤ 64 → (IntKind.i64.wrap (2 ^ (ji3).toNat)) = ji8 := fun hle_ => by have h_ := hji8z hle_; rw [Int.one_mul] at h_; exact h_
   have hji8y : (wrap64 (1 * 2 ^ min (ji3).toNat 64)) = ji8 := (i64_w _).symm.trans hji8_; have hji8x : (ji3) ≤ 64 → (wrap64 (1 * 2 ^ (ji3).toNat)) = ji8 := fun h_ => (i64_w _).symm.trans (hji8z h_); obtain rfl := oI_ H; go_enter Tryz.func105, Tryz.ntmps105; go_wp2; go_ret; exact ⟨by first | rfl | (simp; done) | (simp only [← hji3, ← hji5, ← hji8] <;> (first | rfl | simp)) | (simp [*]; done) | (congr 1; rw [Bool.eq_iff_iff]; simp; done), dR_⟩
  rw [if_neg c6] at H; have c6b0 := dF_ c6; clear c6; obtain rfl := oI_ H; go_enter Tryz.func105, Tryz.ntmps105; go_wp2; go_ret; exact ⟨by first | rfl | (simp; done) | (simp only [← hji3, ← hji5] <;> (first | rfl | simp)) | (simp [*]; done) | (congr 1; rw [Bool.eq_iff_iff]; simp; done), dR_⟩
 rw [if_neg c4] at H; exact absurd H (by simp)
end
section
set_option maxRecDepth 100000
open Go.RowKit Go.Proofs.YtibfkkjkahpobaaGreatW.PrintWords
abbrev EvF := FuncId → Array Value → World → Option (Value × World)
def evOp (P : Program) (call : EvF) (o : Oper) (a : Act) (w : World) : Option (Value × World) :=
  match (execOp a.eval o).run P w with
  | .ok (.value v) w1 => some (v, w1)
  | .ok (.enter f args) w1 => call f args w1
  | _ => none
def evOps (P : Program) (call : EvF) (ops : Array Oper) : List Oper → Act → World → Option (Act × World)
  | [], a, w => some (a, w)
  | o :: r, a, w => bif Region.wanted o (yielded ops a.tmps) then (match evOp P call o a w with
    | some (v, w1) => evOps P call ops r (a.put o.dst v) w1
    | none => none) else evOps P call ops r (a.put o.dst undef) w
def evC (P : Program) (call : EvF) : Code → Act → World → Option (Exit × Act × World)
  | .skip, a, w => some (.normal, a, w)
  | .region _ ops false, a, w => match evOps P call ops ops.toList a w with
    | some (a1, w1) => some (.normal, a1, w1)
    | none => none
  | .seq x y, a, w => match evC P call x a w with
    | some (.normal, a1, w1) => evC P call y a1 w1
    | r => r
  | .cond c x y, a, w => match a.eval c with
    | .bool true => evC P call x a w
    | .bool false => evC P call y a w
    | _ => none
  | .block id c, a, w => match evC P call c a w with
    | some (.exit id', a1, w1) => if id' = id then some (.normal, a1, w1) else some (.exit id', a1, w1)
    | r => r
  | .exit id, a, w => some (.exit id, a, w)
  | .ret, a, w => some (.ret, a, w)
  | _, _, _ => none
def evF (P : Program) : Nat → EvF
  | 0, _, _, _ => none
  | n + 1, f, args, w => match P.funcs[f]? with
    | some fn => match fn.body, fn.results with
      | some c, ⟨[.tmp t]⟩ => match evC P (evF P n) c { tmps := args ++ Array.replicate (fn.ntmps - args.size) undef, defers := [] } w with
        | some (.normal, a, w1) => some (a.tmps.getD t undef, w1)
        | some (.ret, a, w1) => some (a.tmps.getD t undef, w1)
        | _ => none
      | _, _ => none
    | none => none
section
variable {P : Program} {call : EvF} (hcall : ∀ f args w v w1, call f args w = some (v, w1) → Calls P f args w fun e w' => e = .returned v ∧ w' = w1)
include hcall
theorem evOp_ok {o : Oper} {a : Act} {w w1 : World} {v : Value} {K : Act → World → Prop} {Q : Exit → Act → World → Prop} (h : evOp P call o a w = some (v, w1)) (hk : K (a.put o.dst v) w1) : o.wp P a w K Q := by
  unfold evOp at h; unfold Oper.wp; split at h
  · rename_i v' w' hr
    rw [hr]; obtain ⟨rfl, rfl⟩ := (Prod.mk.injEq ..).mp (Option.some.inj h); exact hk
  · rename_i f args w' hr
    rw [hr]; refine Calls.mono (hcall _ _ _ _ _ h) ?_; rintro e w2 ⟨rfl, rfl⟩; exact hk
  · cases h
theorem evOps_ok {ops : Array Oper} {Q : Exit → Act → World → Prop} : ∀ (l : List Oper) (i : Nat) (a a1 : Act) (w w1 : World), ops.toList.drop i = l → a.defers = [] → evOps P call ops l a w = some (a1, w1) → (a1.defers = [] → Q .normal a1 w1) → wpOps P ops Q (List.range' i l.length) a w
  | [], i, a, a1, w, w1, hl, hd, h, hk => by
    obtain ⟨rfl, rfl⟩ := (Prod.mk.injEq ..).mp (Option.some.inj h)
    exact hk hd
  | o :: r, i, a, a1, w, w1, hl, hd, h, hk => by
    have hi : ops[i]? = some o := by
      have := congrArg (fun l => l[0]?) hl; simpa [List.getElem?_drop] using this
    have hr : ops.toList.drop (i + 1) = r := by rw [← List.drop_drop, hl]; rfl
    have hp : ∀ v, (a.put o.dst v).defers = [] := fun v => by cases o.dst <;> exact hd
    rw [List.length_cons, List.range'_succ, wpOps_cons]; unfold wpOp; simp only [hi]; unfold evOps at h
    cases hw : Region.wanted o (yielded ops a.tmps) with
    | false =>
      rw [hw] at h
      exact evOps_ok r (i + 1) _ a1 w w1 hr (hp _) h hk
    | true =>
      rw [hw] at h; rw [if_pos rfl]; refine .inl ?_; simp only [cond_true] at h; split at h
      · rename_i v w2 ho
        exact evOp_ok hcall ho (evOps_ok r (i + 1) _ a1 w2 w1 hr (hp _) h hk)
      · cases h
theorem evC_ok {Q : Exit → Act → World → Prop} : ∀ (c : Code) (a a1 : Act) (w w1 : World) (e : Exit), a.defers = [] → evC P call c a w = some (e, a1, w1) → (a1.defers = [] → Q e a1 w1) → c.wp P Q a w
  | .skip, a, a1, w, w1, e, hd, h, hk => by
    simp only [evC, Option.some.injEq, Prod.mk.injEq] at h; obtain ⟨rfl, rfl, rfl⟩ := h
    exact wp_skip (hk hd)
  | .region id ops false, a, a1, w, w1, e, hd, h, hk => by
    simp only [evC] at h; split at h
    · rename_i a2 w2 ho
      simp only [Option.some.injEq, Prod.mk.injEq] at h; obtain ⟨rfl, rfl, rfl⟩ := h; refine wp_region ?_; rw [List.range_eq_range']; have := evOps_ok hcall (Q := Q) ops.toList 0 a a2 w w2 rfl hd ho hk; simpa using this
    · cases h
  | .seq x y, a, a1, w, w1, e, hd, h, hk => by
    simp only [evC] at h; refine wp_seq ?_; split at h
    · rename_i a2 w2 hx
      exact evC_ok x a a2 w w2 .normal hd hx fun hd2 => evC_ok y a2 a1 w2 w1 e hd2 h hk
    · rename_i hn
      refine evC_ok x a a1 w w1 e hd h fun hd2 => ?_
      cases e with
      | normal => exact absurd h (hn _ _)
      | _ => exact hk hd2
  | .cond c x y, a, a1, w, w1, e, hd, h, hk => by
    simp only [evC] at h; split at h
    · rename_i hc; exact wp_cond_split hc (fun _ => evC_ok x a a1 w w1 e hd h hk) (fun h => by cases h)
    · rename_i hc; exact wp_cond_split hc (fun h => by cases h) (fun _ => evC_ok y a a1 w w1 e hd h hk)
    · cases h
  | .block id c, a, a1, w, w1, e, hd, h, hk => by
    simp only [evC] at h; refine wp_block ?_; split at h
    · rename_i id' a2 w2 hx
      refine evC_ok c a a2 w w2 (.exit id') hd hx fun hd2 => ?_; show if id' = id then _ else _
      split at h
      · rename_i e1
        simp only [Option.some.injEq, Prod.mk.injEq] at h; obtain ⟨rfl, rfl, rfl⟩ := h; rw [if_pos e1]; exact hk hd2
      · rename_i e1
        simp only [Option.some.injEq, Prod.mk.injEq] at h; obtain ⟨rfl, rfl, rfl⟩ := h; rw [if_neg e1]; exact hk hd2
    · rename_i hn
      refine evC_ok c a a1 w w1 e hd h fun hd2 => ?_
      cases e with
      | exit id' => exact absurd h (hn _ _ _)
      | _ => exact hk hd2
  | .exit id, a, a1, w, w1, e, hd, h, hk => by
    simp only [evC, Option.some.injEq, Prod.mk.injEq] at h; obtain ⟨rfl, rfl, rfl⟩ := h
    exact wp_exit (hk hd)
  | .ret, a, a1, w, w1, e, hd, h, hk => by
    simp only [evC, Option.some.injEq, Prod.mk.injEq] at h; obtain ⟨rfl, rfl, rfl⟩ := h
    exact wp_ret (hk hd)
  | .region id ops true, a, a1, w, w1, e, hd, h, hk => by simp [evC] at h
  | .loop c, a, a1, w, w1, e, hd, h, hk => by simp [evC] at h
  | .rangeFunc f p x y, a, a1, w, w1, e, hd, h, hk => by simp [evC] at h
  | .scope c, a, a1, w, w1, e, hd, h, hk => by simp [evC] at h
  | .label l, a, a1, w, w1, e, hd, h, hk => by simp [evC] at h
  | .goto l, a, a1, w, w1, e, hd, h, hk => by simp [evC] at h
end
theorem evF_ok {P : Program} : ∀ (n : Nat) (f : FuncId) (args : Array Value) (w : World) (v : Value) (w1 : World), evF P n f args w = some (v, w1) → Calls P f args w fun e w' => e = .returned v ∧ w' = w1
  | 0, f, args, w, v, w1, h => by cases h
  | n + 1, f, args, w, v, w1, h => by
    unfold evF at h; split at h
    · rename_i fn hf
      split at h
      · rename_i c t hb hrs
        have fin : ∀ (e : Exit) (a : Act) (w2 : World), (e = .normal ∨ e = .ret) → evC P (evF P n) c { tmps := args ++ Array.replicate (fn.ntmps - args.size) undef, defers := [] } w = some (e, a, w2) → some (a.tmps.getD t undef, w2) = some (v, w1) → Calls P f args w fun e w' => e = .returned v ∧ w' = w1 := fun e a w2 he hx hv => by
          obtain ⟨rfl, rfl⟩ := (Prod.mk.injEq ..).mp (Option.some.inj hv); refine calls_of_wp hf hb (evC_ok (evF_ok n) c _ a w w2 e rfl hx fun hd => ?_); rcases he with rfl | rfl
          · exact ⟨hd, _, results_tmp hrs a.tmps P w2, rfl, rfl⟩
          · exact ⟨hd, _, results_tmp hrs a.tmps P w2, rfl, rfl⟩
        split at h
        · rename_i a w2 hx; exact fin .normal a w2 (.inl rfl) hx h
        · rename_i a w2 hx; exact fin .ret a w2 (.inr rfl) hx h
        · cases h
      · cases h
    · cases h
theorem run_upto {P : Program} {f : FuncId} {k N : Nat} {v : Int → Value} (h : (fun w => (List.range N).map fun n : Nat => evF P k f #[.int .i64 (n : Int)] w) = fun w => (List.range N).map fun n : Nat => some (v (n : Int), w)) {op : Int} (h0 : 0 ≤ op) (h1 : op < N) (w : World) : Calls P f #[.int .i64 op] w fun e w' => e = .returned (v op) ∧ Dr_ w w' := by
  obtain ⟨n, rfl⟩ : ∃ n : Nat, op = n := ⟨op.toNat, by omega⟩
  have h2 := List.map_eq_map_iff.1 (congrFun h w) n (List.mem_range.2 (by omega)); refine Calls.mono (evF_ok k f _ w _ _ h2) ?_; rintro e w' ⟨rfl, rfl⟩; exact ⟨rfl, Dr_.refl _⟩
theorem run_upto2 {P : Program} {f : FuncId} {k N : Nat} {v : Int → Value} (b : Int) (h : (fun w => (List.range N).map fun n : Nat => evF P k f #[.int .i64 (n : Int), .int .i64 b] w) = fun w => (List.range N).map fun n : Nat => some (v (n : Int), w)) {op : Int} (h0 : 0 ≤ op) (h1 : op < N) (w : World) : Calls P f #[.int .i64 op, .int .i64 b] w fun e w' => e = .returned (v op) ∧ Dr_ w w' := by
  obtain ⟨n, rfl⟩ : ∃ n : Nat, op = n := ⟨op.toNat, by omega⟩
  have h2 := List.map_eq_map_iff.1 (congrFun h w) n (List.mem_range.2 (by omega)); refine Calls.mono (evF_ok k f _ w _ _ h2) ?_; rintro e w' ⟨rfl, rfl⟩; exact ⟨rfl, Dr_.refl _⟩
def fin {α : Type} (N : Int) (e : Int → α) (a : Int) : Option α := if 0 ≤ a ∧ a < N then some (e a) else none
theorem fin_calls {α : Type} {P : Program} {f : FuncId} {k N : Nat} {e : Int → α} {tv : α → Value} (h : (fun w => (List.range N).map fun n : Nat => evF P k f #[.int .i64 (n : Int)] w) = fun w => (List.range N).map fun n : Nat => some (tv (e (n : Int)), w)) {op : Int} {r : α} (hf : fin N e op = some r) (w : World) : Calls P f #[.int .i64 op] w fun e w' => e = .returned (tv r) ∧ Dr_ w w' := by
  unfold fin at hf; split at hf
  · rename_i hb
    obtain rfl := Option.some.inj hf; exact run_upto (v := fun n => tv (e n)) h hb.1 hb.2 w
  · cases hf
theorem fin_calls2 {α : Type} {P : Program} {f : FuncId} {k N : Nat} {e : Int → α} {tv : α → Value} (b : Int) (h : (fun w => (List.range N).map fun n : Nat => evF P k f #[.int .i64 (n : Int), .int .i64 b] w) = fun w => (List.range N).map fun n : Nat => some (tv (e (n : Int)), w)) {op : Int} {r : α} (hf : fin N e op = some r) (w : World) : Calls P f #[.int .i64 op, .int .i64 b] w fun e w' => e = .returned (tv r) ∧ Dr_ w w' := by
  unfold fin at hf; split at hf
  · rename_i hb
    obtain rfl := Option.some.inj hf; exact run_upto2 (v := fun n => tv (e n)) b h hb.1 hb.2 w
  · cases hf
def isa_Late.f (k : Nat) (a0 : Int) : Option Int := fin 34 (fun a => if a = 14 ∨ a = 15 ∨ a = 26 then 2 else if a = 20 ∨ a = 24 then 3 else if a = 16 ∨ a = 17 then 4 else 1) a0
theorem isa_Late.mono : ∀ a0 k, LeO (isa_Late.f k a0) (isa_Late.f (k + 1) a0) := fun _ _ => LeO.refl _
theorem isa_Late.calls (k : Nat) (a0 : Int) (r : Int) (w : World) (h : isa_Late.f k a0 = some r) : Calls Tryz.prog 95 #[.int .i64 a0] w fun e w' => e = .returned (.int .i64 r) ∧ Dr_ w w' := fin_calls (P := Tryz.prog) (f := 95) (k := 3) (N := 34) (tv := fun r : Int => .int .i64 r) (by kernel_rfl) h w
def isa_Effect.f (k : Nat) (a0 : Int) : Option Bool := fin 34 (fun a => a == 16 || (a == 17 || ((decide (24 ≤ a) && decide (a ≤ 27)) || (decide (31 ≤ a) && decide (a ≤ 33))))) a0
theorem isa_Effect.mono : ∀ a0 k, LeO (isa_Effect.f k a0) (isa_Effect.f (k + 1) a0) := fun _ _ => LeO.refl _
theorem isa_Effect.calls (k : Nat) (a0 : Int) (r : Bool) (w : World) (h : isa_Effect.f k a0 = some r) : Calls Tryz.prog 98 #[.int .i64 a0] w fun e w' => e = .returned (.bool r) ∧ Dr_ w w' := fin_calls (P := Tryz.prog) (f := 98) (k := 3) (N := 34) (tv := fun r : Bool => .bool r) (by kernel_rfl) h w
def isa_Shape.f (k : Nat) (a0 : Int) : Option Int := fin 34 (fun a => rd [0, 1, 1, 1, 1, 1, 1, 1, 1, 1, 1, 1, 1, 1, 1, 1, 1, 1, 1, 1, 1, 2, 3, 4, 3, 5, 6, 7, 8, 9, 9, 8, 0, 0] a) a0
theorem isa_Shape.mono : ∀ a0 k, LeO (isa_Shape.f k a0) (isa_Shape.f (k + 1) a0) := fun _ _ => LeO.refl _
theorem isa_Shape.calls (k : Nat) (a0 : Int) (r : Int) (w : World) (h : isa_Shape.f k a0 = some r) : Calls Tryz.prog 89 #[.int .i64 a0] w fun e w' => e = .returned (.int .i64 r) ∧ Dr_ w w' := fin_calls (P := Tryz.prog) (f := 89) (k := 3) (N := 34) (tv := fun r : Int => .int .i64 r) (by kernel_rfl) h w
def isa_HasD.f (a0 : Int) : Option Bool := fin 10 (fun a => a == 1 || a == 2 || a == 3 || a == 4 || a == 6) a0
theorem isa_HasD.calls (a0 : Int) (r : Bool) (w : World) (h : isa_HasD.f a0 = some r) : Calls Tryz.prog 91 #[.int .i64 a0] w fun e w' => e = .returned (.bool r) ∧ Dr_ w w' := fin_calls (P := Tryz.prog) (f := 91) (k := 3) (N := 10) (tv := fun r : Bool => .bool r) (by kernel_rfl) h w
def isa_HasA.f (k : Nat) (a0 : Int) : Option Bool := fin 10 (fun a => a == 1 || a == 2 || a == 3 || a == 5 || a == 7 || a == 9) a0
theorem isa_HasA.mono : ∀ a0 k, LeO (isa_HasA.f k a0) (isa_HasA.f (k + 1) a0) := fun _ _ => LeO.refl _
theorem isa_HasA.calls (k : Nat) (a0 : Int) (r : Bool) (w : World) (h : isa_HasA.f k a0 = some r) : Calls Tryz.prog 92 #[.int .i64 a0] w fun e w' => e = .returned (.bool r) ∧ Dr_ w w' := fin_calls (P := Tryz.prog) (f := 92) (k := 3) (N := 10) (tv := fun r : Bool => .bool r) (by kernel_rfl) h w
def isa_HasB.f (a0 : Int) : Option Bool := fin 10 (fun a => a == 1 || a == 5) a0
theorem isa_HasB.calls (a0 : Int) (r : Bool) (w : World) (h : isa_HasB.f a0 = some r) : Calls Tryz.prog 93 #[.int .i64 a0] w fun e w' => e = .returned (.bool r) ∧ Dr_ w w' := fin_calls (P := Tryz.prog) (f := 93) (k := 3) (N := 10) (tv := fun r : Bool => .bool r) (by kernel_rfl) h w
def isa_Target.f (a0 : Int) : Option Bool := fin 10 (fun a => a == 8 || a == 9) a0
theorem isa_Target.calls (a0 : Int) (r : Bool) (w : World) (h : isa_Target.f a0 = some r) : Calls Tryz.prog 103 #[.int .i64 a0] w fun e w' => e = .returned (.bool r) ∧ Dr_ w w' := fin_calls (P := Tryz.prog) (f := 103) (k := 3) (N := 10) (tv := fun r : Bool => .bool r) (by kernel_rfl) h w
def isa_Bits.f (k : Nat) (a0 : Int) : Option Int := fin 10 (fun a => if a = 3 ∨ a = 5 ∨ a = 9 then 14 else if a = 4 ∨ a = 8 then 18 else 0) a0
theorem isa_Bits.mono : ∀ a0 k, LeO (isa_Bits.f k a0) (isa_Bits.f (k + 1) a0) := fun _ _ => LeO.refl _
theorem isa_Bits.calls (k : Nat) (a0 : Int) (r : Int) (w : World) (h : isa_Bits.f k a0 = some r) : Calls Tryz.prog 104 #[.int .i64 a0] w fun e w' => e = .returned (.int .i64 r) ∧ Dr_ w w' := fin_calls (P := Tryz.prog) (f := 104) (k := 3) (N := 10) (tv := fun r : Int => .int .i64 r) (by kernel_rfl) h w
def r3_Latency.f (k : Nat) (a0 : Int) : Option Int := fin 34 (fun a => if a = 14 ∨ a = 15 ∨ a = 26 then 2 else if a = 20 ∨ a = 24 then 3 else if a = 16 ∨ a = 17 then 4 else 1) a0
theorem r3_Latency.mono : ∀ a0 k, LeO (r3_Latency.f k a0) (r3_Latency.f (k + 1) a0) := fun _ _ => LeO.refl _
theorem r3_Latency.calls (k : Nat) (a0 : Int) (r : Int) (w : World) (h : r3_Latency.f k a0 = some r) : Calls Tryz.prog 40 #[.int .i64 a0] w fun e w' => e = .returned (.int .i64 r) ∧ Dr_ w w' := fin_calls (P := Tryz.prog) (f := 40) (k := 3) (N := 34) (tv := fun r : Int => .int .i64 r) (by kernel_rfl) h w
def r3_Effect.f (a0 : Int) : Option Bool := fin 34 (fun a => a == 16 || (a == 17 || ((decide (24 ≤ a) && decide (a ≤ 27)) || (decide (31 ≤ a) && decide (a ≤ 33))))) a0
theorem r3_Effect.calls (a0 : Int) (r : Bool) (w : World) (h : r3_Effect.f a0 = some r) : Calls Tryz.prog 80 #[.int .i64 a0] w fun e w' => e = .returned (.bool r) ∧ Dr_ w w' := fin_calls (P := Tryz.prog) (f := 80) (k := 3) (N := 34) (tv := fun r : Bool => .bool r) (by kernel_rfl) h w
def r3_Target.f (a0 : Int) : Option Bool := fin 10 (fun a => a == 8 || a == 9) a0
theorem r3_Target.calls (a0 : Int) (r : Bool) (w : World) (h : r3_Target.f a0 = some r) : Calls Tryz.prog 73 #[.int .i64 a0] w fun e w' => e = .returned (.bool r) ∧ Dr_ w w' := fin_calls (P := Tryz.prog) (f := 73) (k := 3) (N := 10) (tv := fun r : Bool => .bool r) (by kernel_rfl) h w
def r3_Bits.f (k : Nat) (a0 : Int) : Option Int := fin 10 (fun a => if a = 3 ∨ a = 5 ∨ a = 9 then 14 else if a = 4 ∨ a = 8 then 18 else 0) a0
theorem r3_Bits.mono : ∀ a0 k, LeO (r3_Bits.f k a0) (r3_Bits.f (k + 1) a0) := fun _ _ => LeO.refl _
theorem r3_Bits.calls (k : Nat) (a0 : Int) (r : Int) (w : World) (h : r3_Bits.f k a0 = some r) : Calls Tryz.prog 75 #[.int .i64 a0] w fun e w' => e = .returned (.int .i64 r) ∧ Dr_ w w' := fin_calls (P := Tryz.prog) (f := 75) (k := 3) (N := 10) (tv := fun r : Int => .int .i64 r) (by kernel_rfl) h w
def r3_HasD.f (a0 : Int) : Option Bool := fin 10 (fun a => a == 1 || a == 2 || a == 3 || a == 4 || a == 6) a0
theorem r3_HasD.calls (a0 : Int) (r : Bool) (w : World) (h : r3_HasD.f a0 = some r) : Calls Tryz.prog 69 #[.int .i64 a0] w fun e w' => e = .returned (.bool r) ∧ Dr_ w w' := fin_calls (P := Tryz.prog) (f := 69) (k := 3) (N := 10) (tv := fun r : Bool => .bool r) (by kernel_rfl) h w
def r3_HasA.f (a0 : Int) : Option Bool := fin 10 (fun a => a == 1 || a == 2 || a == 3 || a == 5 || a == 7 || a == 9) a0
theorem r3_HasA.calls (a0 : Int) (r : Bool) (w : World) (h : r3_HasA.f a0 = some r) : Calls Tryz.prog 70 #[.int .i64 a0] w fun e w' => e = .returned (.bool r) ∧ Dr_ w w' := fin_calls (P := Tryz.prog) (f := 70) (k := 3) (N := 10) (tv := fun r : Bool => .bool r) (by kernel_rfl) h w
def r3_HasB.f (a0 : Int) : Option Bool := fin 10 (fun a => a == 1 || a == 5) a0
theorem r3_HasB.calls (a0 : Int) (r : Bool) (w : World) (h : r3_HasB.f a0 = some r) : Calls Tryz.prog 71 #[.int .i64 a0] w fun e w' => e = .returned (.bool r) ∧ Dr_ w w' := fin_calls (P := Tryz.prog) (f := 71) (k := 3) (N := 10) (tv := fun r : Bool => .bool r) (by kernel_rfl) h w
def isa_May.e (s a : Int) : Bool := if a = 0 then true else if a = 14 ∨ a = 15 ∨ a = 16 ∨ a = 17 ∨ a = 20 then s == 3 else if a = 18 ∨ a = 19 ∨ a = 21 then s == 1 else if a = 24 ∨ a = 25 ∨ a = 26 ∨ a = 27 then s == 2 else if 28 ≤ a then s == 0 else s == 0 || s == 1
def isa_May.f (k : Nat) (a0 a1 : Int) : Option Bool := if 0 ≤ a1 ∧ a1 ≤ 3 then fin 34 (isa_May.e a1) a0 else none
theorem isa_May.mono : ∀ a0 a1 k, LeO (isa_May.f k a0 a1) (isa_May.f (k + 1) a0 a1) := fun _ _ _ => LeO.refl _
theorem isa_May.at0 : (fun w => (List.range 34).map fun m : Nat => evF Tryz.prog 3 51 #[.int .i64 (m : Int), .int .i64 0] w) = fun w => (List.range 34).map fun m : Nat => some (.bool (isa_May.e 0 (m : Int)), w) := by kernel_rfl
theorem isa_May.at1 : (fun w => (List.range 34).map fun m : Nat => evF Tryz.prog 3 51 #[.int .i64 (m : Int), .int .i64 1] w) = fun w => (List.range 34).map fun m : Nat => some (.bool (isa_May.e 1 (m : Int)), w) := by kernel_rfl
theorem isa_May.at2 : (fun w => (List.range 34).map fun m : Nat => evF Tryz.prog 3 51 #[.int .i64 (m : Int), .int .i64 2] w) = fun w => (List.range 34).map fun m : Nat => some (.bool (isa_May.e 2 (m : Int)), w) := by kernel_rfl
theorem isa_May.at3 : (fun w => (List.range 34).map fun m : Nat => evF Tryz.prog 3 51 #[.int .i64 (m : Int), .int .i64 3] w) = fun w => (List.range 34).map fun m : Nat => some (.bool (isa_May.e 3 (m : Int)), w) := by kernel_rfl
theorem isa_May.calls (k : Nat) (a0 : Int) (a1 : Int) (r : Bool) (w : World) (h : isa_May.f k a0 a1 = some r) : Calls Tryz.prog 51 #[.int .i64 a0, .int .i64 a1] w fun e w' => e = .returned (.bool r) ∧ Dr_ w w' := by
  unfold isa_May.f at h; split at h
  · rename_i hb
    have hs : a1 = 0 ∨ a1 = 1 ∨ a1 = 2 ∨ a1 = 3 := by omega
    rcases hs with rfl | rfl | rfl | rfl
    · exact fin_calls2 (tv := .bool) 0 isa_May.at0 h w
    · exact fin_calls2 (tv := .bool) 1 isa_May.at1 h w
    · exact fin_calls2 (tv := .bool) 2 isa_May.at2 h w
    · exact fin_calls2 (tv := .bool) 3 isa_May.at3 h w
  · cases h
end
section
attribute [local go_sem] max2_int min2_int max_two min_two max_three min_three max_four min_four
def isa_Ends.f (a0 : Int) : Option (Bool) := if a0 ≥ 28 then (some (decide (a0 ≤ 33))) else (some false)
theorem isa_Ends.calls (a0 : Int) (r : Bool) (w : World) (h : isa_Ends.f a0 = some r) :
    Calls Tryz.prog 60 #[.int .i64 a0] w fun e w' => e = .returned (.bool r) ∧ Dr_ w w' := by
 have H : (if a0 ≥ 28 then (some (decide (a0 ≤ 33))) else (some false)) = some r := h; clear h
 by_cases c2 : a0 ≥ 28
 ·rw [if_pos c2] at H; have c2b0 := dE_ c2; clear c2; obtain rfl := oI_ H; go_enter Tryz.func60, Tryz.ntmps60; go_wp2; go_ret; exact ⟨eQ_, dR_⟩
 rw [if_neg c2] at H; have c2b0 := dF_ c2; clear c2; obtain rfl := oI_ H; go_enter Tryz.func60, Tryz.ntmps60; go_wp2; go_ret; exact ⟨eQ_, dR_⟩
def dag_writes.f (k : Nat) (a0_0 : Int) (a0_1 : Int) (a0_2 : Int) (a0_3 : Int) (a0_4 : Int) (a0_5 : ByteArray) (a1 : Int) : Option (Bool) := (isa_Shape.f k a0_0).bind fun t234 => ((isa_HasD.f t234).bind fun t235 => (if t235 = true then (some (a0_1 == a1)) else (some false)))
theorem dag_writes.calls (k : Nat) (a0_0 : Int) (a0_1 : Int) (a0_2 : Int) (a0_3 : Int) (a0_4 : Int) (a0_5 : ByteArray) (a1 : Int) (r : Bool) (w : World) (h : dag_writes.f k a0_0 a0_1 a0_2 a0_3 a0_4 a0_5 a1 = some r) :
    Calls Tryz.prog 102 #[.agg #[.int .i64 a0_0, .int .i64 a0_1, .int .i64 a0_2, .int .i64 a0_3, .int .i64 a0_4, .string a0_5], .int .i64 a1] w fun e w' => e = .returned (.bool r) ∧ Below w.heap.size w w' := by
 have hu24 := Tryz.underlying24; have HB := aM_ (Below.refl w.heap.size w); have H : ((isa_Shape.f k a0_0).bind fun t234 => ((isa_HasD.f t234).bind fun t235 => (if t235 = true then (some (a0_1 == a1)) else (some false)))) = some r := h; clear h; obtain ⟨t234, A3, H⟩ := oB_ H; obtain ⟨t235, A4, H⟩ := oB_ H
 by_cases c5 : t235 = true
 ·subst c5; rw [if_pos rfl] at H; obtain rfl := oI_ H; go_enter Tryz.func102, Tryz.ntmps102
  go_wp2_with (first | ((with_reducible refine gate_dst (N := 2) rfl ?_); refine bX_ (N := 2) (cs := #[.int .i64 a0_0, .int .i64 a0_1, .int .i64 a0_2, .int .i64 a0_3, .int .i64 a0_4, .string a0_5]) (t := 24) ?_; intro gb233 hg w6 hbox hb; replace BK233 := aM_ (hbox); replace GW233 := aM_ (gE_ hg (bl_ HB)); replace GE233 := aM_ (gE_ hg (bl_ HB)); replace HB := aM_ (bT_ (bl_ HB) hb); clear hb hbox hg; obtain ⟨hcz7_0, hcz7_1, hcz7_2, hcz7_3, hcz7_4, hcz7_5⟩ := cl6_ BK233.out; obtain ⟨hfz7_0, hfz7_1, hfz7_2, hfz7_3, hfz7_4, hfz7_5⟩ := fz6_ BK233.out) | ((with_reducible refine gC_ (f := 89) rfl ?_); refine gL_ (some 7) Tryz.func89 #[.int .i64 a0_0] rfl ?_; (with_reducible refine (isa_Shape.calls k a0_0 t234 _ A3.out).mono ?_); rintro e w' ⟨rfl, ⟨nd, rfl⟩⟩; refine ⟨_, rfl, ?_⟩) | ((with_reducible refine gC_ (f := 91) rfl ?_); refine gL_ (some 8) Tryz.func91 #[.int .i64 t234] rfl ?_; (with_reducible refine (isa_HasD.calls t234 true _ A4.out).mono ?_); rintro e w' ⟨rfl, ⟨nd, rfl⟩⟩; refine ⟨_, rfl, ?_⟩))
  go_ret; exact ⟨eR_, bs_ HB GE233⟩
 replace c5 := eF_ c5; subst c5; rw [if_neg Bool.false_ne_true] at H; obtain rfl := oI_ H; go_enter Tryz.func102, Tryz.ntmps102
 go_wp2_with (first | ((with_reducible refine gate_dst (N := 2) rfl ?_); refine bX_ (N := 2) (cs := #[.int .i64 a0_0, .int .i64 a0_1, .int .i64 a0_2, .int .i64 a0_3, .int .i64 a0_4, .string a0_5]) (t := 24) ?_; intro gb233 hg w8 hbox hb; replace BK233 := aM_ (hbox); replace GW233 := aM_ (gE_ hg (bl_ HB)); replace GE233 := aM_ (gE_ hg (bl_ HB)); replace HB := aM_ (bT_ (bl_ HB) hb); clear hb hbox hg; obtain ⟨hcz9_0, hcz9_1, hcz9_2, hcz9_3, hcz9_4, hcz9_5⟩ := cl6_ BK233.out; obtain ⟨hfz9_0, hfz9_1, hfz9_2, hfz9_3, hfz9_4, hfz9_5⟩ := fz6_ BK233.out) | ((with_reducible refine gC_ (f := 89) rfl ?_); refine gL_ (some 7) Tryz.func89 #[.int .i64 a0_0] rfl ?_; (with_reducible refine (isa_Shape.calls k a0_0 t234 _ A3.out).mono ?_); rintro e w' ⟨rfl, ⟨nd, rfl⟩⟩; refine ⟨_, rfl, ?_⟩) | ((with_reducible refine gC_ (f := 91) rfl ?_); refine gL_ (some 8) Tryz.func91 #[.int .i64 t234] rfl ?_; (with_reducible refine (isa_HasD.calls t234 false _ A4.out).mono ?_); rintro e w' ⟨rfl, ⟨nd, rfl⟩⟩; refine ⟨_, rfl, ?_⟩))
 go_ret; exact ⟨eR_, bs_ HB GE233⟩
end
section
attribute [local go_sem] max2_int min2_int max_two min_two max_three min_three max_four min_four
mutual
def r3_Name.j0 : Nat → ByteArray → Bool → Option (Bool)
  | 0, _, _ => none
  | k + 1, x0, x21 => if x21 = true then (some false) else (r3_Name.l0 k x0 0)
def r3_Name.l0 : Nat → ByteArray → Int → Option (Bool)
  | 0, _, _ => none
  | k + 1, x0, x3 => if x3 < (x0.size : Int) then (if 0 ≤ x3 then (if (bt x0 x3) ≥ 97 then (if (bt x0 x3) ≤ 122 then (r3_Name.j2 k x0 x3 (!true)) else (if (bt x0 x3) = 95 then (r3_Name.j2 k x0 x3 (!true)) else (if (bt x0 x3) ≥ 48 then (r3_Name.j2 k x0 x3 (!(decide ((bt x0 x3) ≤ 57)))) else (r3_Name.j2 k x0 x3 (!false))))) else (if (bt x0 x3) = 95 then (r3_Name.j2 k x0 x3 (!true)) else (if (bt x0 x3) ≥ 48 then (r3_Name.j2 k x0 x3 (!(decide ((bt x0 x3) ≤ 57)))) else (r3_Name.j2 k x0 x3 (!false))))) else (none)) else (some true)
def r3_Name.j2 : Nat → ByteArray → Int → Bool → Option (Bool)
  | 0, _, _, _ => none
  | k + 1, x0, x3, x56 => if x56 = true then (some false) else (r3_Name.l0 k x0 (wrap64 (x3 + 1)))
end
def r3_Name.f (k : Nat) (a0 : ByteArray) : Option (Bool) := if (a0.size : Int) = 0 then (r3_Name.j0 k a0 true) else (if (a0.size : Int) > 12 then (r3_Name.j0 k a0 true) else (if 0 < (a0.size : Int) then (if (bt a0 0) ≥ 48 then (r3_Name.j0 k a0 (decide ((bt a0 0) ≤ 57))) else (r3_Name.j0 k a0 false)) else (none)))
theorem r3_Name.calls (k : Nat) (a0 : ByteArray) (r : Bool) (w : World) (h : r3_Name.f k a0 = some r) :
    Calls Tryz.prog 36 #[.string a0] w fun e w' => e = .returned (.bool r) ∧ Dr_ w w' := by
 have H : (if (a0.size : Int) = 0 then (r3_Name.j0 k a0 true) else (if (a0.size : Int) > 12 then (r3_Name.j0 k a0 true) else (if 0 < (a0.size : Int) then (if (bt a0 0) ≥ 48 then (r3_Name.j0 k a0 (decide ((bt a0 0) ≤ 57))) else (r3_Name.j0 k a0 false)) else (none)))) = some r := h; clear h; have HC2 := aM_ H; clear H; go_enter Tryz.func36, Tryz.ntmps36
 go_upto_region 1 with (fail)
 go_cut [21] (fun v21 wc => ∃ (kq : Nat) (x21_1 : Bool), v21 = .bool x21_1 ∧ As_ (r3_Name.j0 kq a0 x21_1 = some r) ∧ As_ (kq ≤ k) ∧ Dr_ w wc)
 case first =>
  have H := HC2.out; clear HC2
  by_cases c3 : (a0.size : Int) = 0
  ·rw [if_pos c3] at H; have c3b0 := bH_ c3; have c3b1 := bF_ c3; clear c3
   (first | rw [c3b0] | (simp only [i64_w, i32_w]; rw [c3b0]) | skip)
   replace H := aM_ H; go_wp2
   go_meet
   case rel => exact ⟨_, (true), eQ_, H, ⟨by first | omega | exact Nat.le_refl _⟩, dR_⟩
  rw [if_neg c3] at H; have c3b0 := bE_ c3; have c3b1 := bG_ c3
  (first | rw [c3b0] | (simp only [i64_w, i32_w]; rw [c3b0]) | skip)
  by_cases c4 : (a0.size : Int) > 12
  ·rw [if_pos c4] at H; have c4b0 := dE_ c4; have c4b1 : decide (12 < a0.size) = true := decide_eq_true (by omega); clear c4; replace H := aM_ H; go_wp2
   go_meet
   case rel => exact ⟨_, (true), eQ_, H, ⟨by first | omega | exact Nat.le_refl _⟩, dR_⟩
  rw [if_neg c4] at H; have c4b0 := dF_ c4; have c4b1 : decide (12 < a0.size) = false := decide_eq_false (by omega); clear c4
  by_cases c5 : 0 < (a0.size : Int)
  ·rw [if_pos c5] at H; have c5b0 := dE_ c5; have c5b1 : decide (0 < a0.size) = true := decide_eq_true (by omega); clear c5
   by_cases c7 : (bt a0 0) ≥ 48
   ·rw [if_pos c7] at H; have c7b0 := dE_ c7; clear c7; replace H := aM_ H; have p6 : 0 ≤ (0 : Int) := (by omega)
    have q6 : 0 < a0.size := (by have : (0 : Int) < (a0.size : Int) := oD_; omega)
    have hx6 : ∀ h : 0 < a0.size, ((a0[0]'h).toNat : Int) = bt a0 0 := bt_at a0 0; clear p6; have qi6 : (0 < (a0.size : Int)) = True := eq_true (oD_); replace q6 := eq_true q6; have p8 : 0 ≤ (0 : Int) := (by omega)
    have q8 : 0 < a0.size := (by have : (0 : Int) < (a0.size : Int) := oD_; omega)
    have hx8 : ∀ h : 0 < a0.size, ((a0[0]'h).toNat : Int) = bt a0 0 := bt_at a0 0; clear p8; have qi8 : (0 < (a0.size : Int)) = True := eq_true (oD_); replace q8 := eq_true q8; go_wp2
    go_meet
    case rel => exact ⟨_, (decide ((bt a0 0) ≤ 57)), eQ_, H, ⟨by first | omega | exact Nat.le_refl _⟩, dR_⟩
   rw [if_neg c7] at H; have c7b0 := dF_ c7; clear c7; replace H := aM_ H; have p6 : 0 ≤ (0 : Int) := (by omega)
   have q6 : 0 < a0.size := (by have : (0 : Int) < (a0.size : Int) := oD_; omega)
   have hx6 : ∀ h : 0 < a0.size, ((a0[0]'h).toNat : Int) = bt a0 0 := bt_at a0 0; clear p6; have qi6 : (0 < (a0.size : Int)) = True := eq_true (oD_); replace q6 := eq_true q6; go_wp2
   go_meet
   case rel => exact ⟨_, (false), eQ_, H, ⟨by first | omega | exact Nat.le_refl _⟩, dR_⟩
  rw [if_neg c5] at H; exact absurd H (by simp)
 case rest =>
  clear HC2; obtain ⟨kq, x21_1, rfl, HA, HJ1, ⟨mc1, rfl⟩⟩ := hcut
  cases kq with
  | zero => exact absurd HA.out (by simp [r3_Name.j0])
  | succ kj1 =>
   have H := HA.out; clear HA; simp only [r3_Name.j0] at H
   by_cases c9 : x21_1 = true
   ·subst c9; rw [if_pos rfl] at H; obtain rfl := oI_ H; go_wp2; go_ret; exact ⟨eQ_, dR_⟩
   replace c9 := eF_ c9; subst c9; rw [if_neg Bool.false_ne_true] at H; replace H := aM_ H; go_wp2
   go_loopg [3] kj1 (fun kq v3 w' => ∃ (x3_2 : Int), v3 = .int .i64 x3_2 ∧ As_ (r3_Name.l0 kq a0 x3_2 = some r) ∧ As_ (kq ≤ kj1) ∧ Dr_ w w')
   case atStart => exact ⟨(0), eQ_, H, ⟨Nat.le_refl _⟩, dR_⟩
   case round =>
    clear H; obtain ⟨x3_2, rfl, HA, HK2, ⟨m2, rfl⟩⟩ := hrel
    cases gk with
    | zero => exact absurd HA.out (by simp [r3_Name.l0])
    | succ k2 =>
     have H := HA.out; clear HA; simp only [r3_Name.l0] at H
     by_cases c10 : x3_2 < (a0.size : Int)
     ·rw [if_pos c10] at H; have c10b0 := dE_ c10; clear c10; have HC11 := aM_ H; clear H
      go_upto_region 6 with (fail)
      go_cut [56] (fun v56 wc => ∃ (kq : Nat) (x56_10 : Bool), v56 = .bool x56_10 ∧ As_ (r3_Name.j2 kq a0 x3_2 x56_10 = some r) ∧ As_ (kq ≤ k2) ∧ Dr_ w wc)
      case first =>
       have H := HC11.out; clear HC11
       by_cases c12 : 0 ≤ x3_2
       ·rw [if_pos c12] at H; have c12b0 := dE_ c12; clear c12
        (first | rw [c12b0] | (simp only [i64_w, i32_w]; rw [c12b0]) | skip)
        by_cases c14 : (bt a0 x3_2) ≥ 97
        ·rw [if_pos c14] at H; have c14b0 := dE_ c14; clear c14
         by_cases c16 : (bt a0 x3_2) ≤ 122
         ·rw [if_pos c16] at H; have c16b0 := dE_ c16; clear c16; replace H := aM_ H; have p13 : 0 ≤ (x3_2 : Int) := oD_; have q13 : x3_2 < (a0.size : Int) := oD_; have hx13 := bt_at a0 x3_2; replace p13 := eq_true p13; replace q13 := eq_true q13; have p15 : 0 ≤ (x3_2 : Int) := oD_; have q15 : x3_2 < (a0.size : Int) := oD_; have hx15 := bt_at a0 x3_2; replace p15 := eq_true p15; replace q15 := eq_true q15; go_wp2
          go_meet
          case rel => exact ⟨_, (!true), eQ_, H, ⟨by have := HJ1.out; have := HK2.out; first | omega | exact Nat.le_refl _⟩, dR_⟩
         rw [if_neg c16] at H; have c16b0 := dF_ c16; clear c16
         by_cases c18 : (bt a0 x3_2) = 95
         ·rw [if_pos c18] at H; have c18b0 := bH_ c18; have c18b1 := bF_ c18; clear c18; replace H := aM_ H; have p13 : 0 ≤ (x3_2 : Int) := oD_; have q13 : x3_2 < (a0.size : Int) := oD_; have hx13 := bt_at a0 x3_2; replace p13 := eq_true p13; replace q13 := eq_true q13; have p15 : 0 ≤ (x3_2 : Int) := oD_; have q15 : x3_2 < (a0.size : Int) := oD_; have hx15 := bt_at a0 x3_2; replace p15 := eq_true p15; replace q15 := eq_true q15; have p17 : 0 ≤ (x3_2 : Int) := oD_; have q17 : x3_2 < (a0.size : Int) := oD_; have hx17 := bt_at a0 x3_2; replace p17 := eq_true p17; replace q17 := eq_true q17; go_wp2
          go_meet
          case rel => exact ⟨_, (!true), eQ_, H, ⟨by have := HJ1.out; have := HK2.out; first | omega | exact Nat.le_refl _⟩, dR_⟩
         rw [if_neg c18] at H; have c18b0 := bE_ c18; have c18b1 := bG_ c18
         by_cases c20 : (bt a0 x3_2) ≥ 48
         ·rw [if_pos c20] at H; have c20b0 := dE_ c20; clear c20; replace H := aM_ H; have p13 : 0 ≤ (x3_2 : Int) := oD_; have q13 : x3_2 < (a0.size : Int) := oD_; have hx13 := bt_at a0 x3_2; replace p13 := eq_true p13; replace q13 := eq_true q13; have p15 : 0 ≤ (x3_2 : Int) := oD_; have q15 : x3_2 < (a0.size : Int) := oD_; have hx15 := bt_at a0 x3_2; replace p15 := eq_true p15; replace q15 := eq_true q15; have p17 : 0 ≤ (x3_2 : Int) := oD_; have q17 : x3_2 < (a0.size : Int) := oD_; have hx17 := bt_at a0 x3_2; replace p17 := eq_true p17; replace q17 := eq_true q17; have p19 : 0 ≤ (x3_2 : Int) := oD_; have q19 : x3_2 < (a0.size : Int) := oD_; have hx19 := bt_at a0 x3_2; replace p19 := eq_true p19; replace q19 := eq_true q19; have p21 : 0 ≤ (x3_2 : Int) := oD_; have q21 : x3_2 < (a0.size : Int) := oD_; have hx21 := bt_at a0 x3_2; replace p21 := eq_true p21; replace q21 := eq_true q21; go_wp2
          go_meet
          case rel => exact ⟨_, (!(decide ((bt a0 x3_2) ≤ 57))), eQ_, H, ⟨by have := HJ1.out; have := HK2.out; first | omega | exact Nat.le_refl _⟩, dR_⟩
         rw [if_neg c20] at H; have c20b0 := dF_ c20; clear c20; replace H := aM_ H; have p13 : 0 ≤ (x3_2 : Int) := oD_; have q13 : x3_2 < (a0.size : Int) := oD_; have hx13 := bt_at a0 x3_2; replace p13 := eq_true p13; replace q13 := eq_true q13; have p15 : 0 ≤ (x3_2 : Int) := oD_; have q15 : x3_2 < (a0.size : Int) := oD_; have hx15 := bt_at a0 x3_2; replace p15 := eq_true p15; replace q15 := eq_true q15; have p17 : 0 ≤ (x3_2 : Int) := oD_; have q17 : x3_2 < (a0.size : Int) := oD_; have hx17 := bt_at a0 x3_2; replace p17 := eq_true p17; replace q17 := eq_true q17; have p19 : 0 ≤ (x3_2 : Int) := oD_; have q19 : x3_2 < (a0.size : Int) := oD_; have hx19 := bt_at a0 x3_2; replace p19 := eq_true p19; replace q19 := eq_true q19; go_wp2
         go_meet
         case rel => exact ⟨_, (!false), eQ_, H, ⟨by have := HJ1.out; have := HK2.out; first | omega | exact Nat.le_refl _⟩, dR_⟩
        rw [if_neg c14] at H; have c14b0 := dF_ c14; clear c14
        by_cases c23 : (bt a0 x3_2) = 95
        ·rw [if_pos c23] at H; have c23b0 := bH_ c23; have c23b1 := bF_ c23; clear c23; replace H := aM_ H; have p13 : 0 ≤ (x3_2 : Int) := oD_; have q13 : x3_2 < (a0.size : Int) := oD_; have hx13 := bt_at a0 x3_2; replace p13 := eq_true p13; replace q13 := eq_true q13; have p22 : 0 ≤ (x3_2 : Int) := oD_; have q22 : x3_2 < (a0.size : Int) := oD_; have hx22 := bt_at a0 x3_2; replace p22 := eq_true p22; replace q22 := eq_true q22; go_wp2
         go_meet
         case rel => exact ⟨_, (!true), eQ_, H, ⟨by have := HJ1.out; have := HK2.out; first | omega | exact Nat.le_refl _⟩, dR_⟩
        rw [if_neg c23] at H; have c23b0 := bE_ c23; have c23b1 := bG_ c23
        by_cases c25 : (bt a0 x3_2) ≥ 48
        ·rw [if_pos c25] at H; have c25b0 := dE_ c25; clear c25; replace H := aM_ H; have p13 : 0 ≤ (x3_2 : Int) := oD_; have q13 : x3_2 < (a0.size : Int) := oD_; have hx13 := bt_at a0 x3_2; replace p13 := eq_true p13; replace q13 := eq_true q13; have p22 : 0 ≤ (x3_2 : Int) := oD_; have q22 : x3_2 < (a0.size : Int) := oD_; have hx22 := bt_at a0 x3_2; replace p22 := eq_true p22; replace q22 := eq_true q22; have p24 : 0 ≤ (x3_2 : Int) := oD_; have q24 : x3_2 < (a0.size : Int) := oD_; have hx24 := bt_at a0 x3_2; replace p24 := eq_true p24; replace q24 := eq_true q24; have p26 : 0 ≤ (x3_2 : Int) := oD_; have q26 : x3_2 < (a0.size : Int) := oD_; have hx26 := bt_at a0 x3_2; replace p26 := eq_true p26; replace q26 := eq_true q26; go_wp2
         go_meet
         case rel => exact ⟨_, (!(decide ((bt a0 x3_2) ≤ 57))), eQ_, H, ⟨by have := HJ1.out; have := HK2.out; first | omega | exact Nat.le_refl _⟩, dR_⟩
        rw [if_neg c25] at H; have c25b0 := dF_ c25; clear c25; replace H := aM_ H; have p13 : 0 ≤ (x3_2 : Int) := oD_; have q13 : x3_2 < (a0.size : Int) := oD_; have hx13 := bt_at a0 x3_2; replace p13 := eq_true p13; replace q13 := eq_true q13; have p22 : 0 ≤ (x3_2 : Int) := oD_; have q22 : x3_2 < (a0.size : Int) := oD_; have hx22 := bt_at a0 x3_2; replace p22 := eq_true p22; replace q22 := eq_true q22; have p24 : 0 ≤ (x3_2 : Int) := oD_; have q24 : x3_2 < (a0.size : Int) := oD_; have hx24 := bt_at a0 x3_2; replace p24 := eq_true p24; replace q24 := eq_true q24; go_wp2
        go_meet
        case rel => exact ⟨_, (!false), eQ_, H, ⟨by have := HJ1.out; have := HK2.out; first | omega | exact Nat.le_refl _⟩, dR_⟩
       rw [if_neg c12] at H; exact absurd H (by simp)
      case rest =>
       clear HC11; obtain ⟨kq, x56_10, rfl, HA, HJ10, ⟨mc10, rfl⟩⟩ := hcut
       cases kq with
       | zero => exact absurd HA.out (by simp [r3_Name.j2])
       | succ kj10 =>
        have H := HA.out; clear HA; simp only [r3_Name.j2] at H
        by_cases c27 : x56_10 = true
        ·subst c27; rw [if_pos rfl] at H; obtain rfl := oI_ H; go_wp2; go_ret; exact ⟨eQ_, dR_⟩
        replace c27 := eF_ c27; subst c27; rw [if_neg Bool.false_ne_true] at H; replace H := aM_ H; go_wp2
        go_roundg kj10
        case measure => have := HJ1.out; have := HK2.out; have := HJ10.out; omega
        case rel => exact ⟨(wrap64 (x3_2 + 1)), eQ_, H, ⟨by have := HJ1.out; have := HK2.out; have := HJ10.out; omega⟩, dR_⟩
     rw [if_neg c10] at H; have c10b0 := dF_ c10; clear c10; obtain rfl := oI_ H; go_wp2; go_ret; exact ⟨eQ_, dR_⟩
def r0_Between.f (a0 : Int) (a1 : Int) (a2 : Int) : Option (Bool) := if a0 ≥ a1 then (some (decide (a0 ≤ a2))) else (some false)
theorem r0_Between.calls (a0 : Int) (a1 : Int) (a2 : Int) (r : Bool) (w : World) (h : r0_Between.f a0 a1 a2 = some r) :
    Calls Tryz.prog 76 #[.int .i64 a0, .int .i64 a1, .int .i64 a2] w fun e w' => e = .returned (.bool r) ∧ Dr_ w w' := by
 have H : (if a0 ≥ a1 then (some (decide (a0 ≤ a2))) else (some false)) = some r := h; clear h
 by_cases c4 : a0 ≥ a1
 ·rw [if_pos c4] at H; have c4b0 := dE_ c4; clear c4; obtain rfl := oI_ H; go_enter Tryz.func76, Tryz.ntmps76; go_wp2; go_ret; exact ⟨eQ_, dR_⟩
 rw [if_neg c4] at H; have c4b0 := dF_ c4; clear c4; obtain rfl := oI_ H; go_enter Tryz.func76, Tryz.ntmps76; go_wp2; go_ret; exact ⟨eQ_, dR_⟩
def r3_Valid.f (a0 : Int) : Option (Bool) := (r0_Between.f a0 0 33).bind fun t140 => (some t140)
theorem r3_Valid.calls (a0 : Int) (r : Bool) (w : World) (h : r3_Valid.f a0 = some r) :
    Calls Tryz.prog 66 #[.int .i64 a0] w fun e w' => e = .returned (.bool r) ∧ Dr_ w w' := by
 have H : ((r0_Between.f a0 0 33).bind fun t140 => (some t140)) = some r := h; clear h; obtain ⟨t140, A2, H⟩ := oB_ H; obtain rfl := oI_ H; go_enter Tryz.func66, Tryz.ntmps66
 go_wp2_with (first | ((with_reducible refine gC_ (f := 76) rfl ?_); refine gL_ (some 4) Tryz.func76 #[.int .i64 a0, .int .i64 0, .int .i64 33] rfl ?_; (with_reducible refine (r0_Between.calls a0 0 33 t140 _ A2.out).mono ?_); rintro e w' ⟨rfl, ⟨nd, rfl⟩⟩; refine ⟨_, rfl, ?_⟩))
 go_ret; exact ⟨eQ_, dR_⟩
def r3_Form.f (a0 : Int) : Option (Int) := (some (([0, 1, 1, 1, 1, 1, 1, 1, 1, 1, 1, 1, 1, 1, 1, 1, 1, 1, 1, 1, 1, 2, 3, 4, 3, 5, 6, 7, 8, 9, 9, 8, 0, 0] : List Int) : List Int)).bind fun y141 => (if 0 ≤ a0 then (if a0 < (y141.length : Int) then (some (rd y141 a0)) else (none)) else (none))
theorem r3_Form.calls (a0 : Int) (r : Int) (w : World) (h : r3_Form.f a0 = some r) :
    Calls Tryz.prog 67 #[.int .i64 a0] w fun e w' => e = .returned (.int .i64 r) ∧ Below w.heap.size w w' := by
 have HB := aM_ (Below.refl w.heap.size w); have H : ((some (([0, 1, 1, 1, 1, 1, 1, 1, 1, 1, 1, 1, 1, 1, 1, 1, 1, 1, 1, 1, 1, 2, 3, 4, 3, 5, 6, 7, 8, 9, 9, 8, 0, 0] : List Int) : List Int)).bind fun y141 => (if 0 ≤ a0 then (if a0 < (y141.length : Int) then (some (rd y141 a0)) else (none)) else (none))) = some r := h; clear h; obtain ⟨y141, hy141⟩ : ∃ y_ : List Int, y_ = (([0, 1, 1, 1, 1, 1, 1, 1, 1, 1, 1, 1, 1, 1, 1, 1, 1, 1, 1, 1, 1, 2, 3, 4, 3, 5, 6, 7, 8, 9, 9, 8, 0, 0] : List Int)) := ⟨_, rfl⟩
 replace H : (if 0 ≤ a0 then (if a0 < (y141.length : Int) then (some (rd y141 a0)) else (none)) else (none)) = some r := by first | (rw [hy141]; with_reducible exact H) | (have H2_ := (Option.bind_some _ _).symm.trans H; rw [hy141]; with_reducible exact H2_) | (have H2_ := (Option.bind_some _ _).symm.trans H; with_reducible exact H2_) | with_reducible exact H | (rw [hy141]; exact H) | exact H
 have Ny141 := aM_ hy141; clear hy141
 by_cases c2 : 0 ≤ a0
 ·rw [if_pos c2] at H; have c2b0 := dE_ c2; clear c2
  by_cases c3 : a0 < (y141.length : Int)
  ·rw [if_pos c3] at H; have c3b0 := dE_ c3; clear c3; obtain rfl := oI_ H; go_enter Tryz.func67, Tryz.ntmps67
   go_wp2_with (first | ((with_reducible refine gate_dst (N := 3) rfl ?_); refine Kd.R_lit (Kd.int .i64) _ 3 ?hg (N := 3) ?hd (xs := ([0, 1, 1, 1, 1, 1, 1, 1, 1, 1, 1, 1, 1, 1, 1, 1, 1, 1, 1, 1, 1, 2, 3, 4, 3, 5, 6, 7, 8, 9, 9, 8, 0, 0] : List Int)) (inner := [.int .i64 0, .int .i64 1, .int .i64 1, .int .i64 1, .int .i64 1, .int .i64 1, .int .i64 1, .int .i64 1, .int .i64 1, .int .i64 1, .int .i64 1, .int .i64 1, .int .i64 1, .int .i64 1, .int .i64 1, .int .i64 1, .int .i64 1, .int .i64 1, .int .i64 1, .int .i64 1, .int .i64 1, .int .i64 2, .int .i64 3, .int .i64 4, .int .i64 3, .int .i64 5, .int .i64 6, .int .i64 7, .int .i64 8, .int .i64 9, .int .i64 9, .int .i64 8, .int .i64 0, .int .i64 0]) (ok := fun _ => True) (okp := fun _ => True) ?hr ?hp (fun _ hk => hk) trivial (Below.refl _ _) (Nat.le_refl _) (by simp) ?_; (case hd => rfl); (case hg => rfl); (case hr => first | (go_simp; done) | (go_simp; rfl)); (case hp => exact (Reps.one (show Kd.M (Kd.int .i64) _ _ _ 0 [.int .i64 0] from rfl) (Reps.one (show Kd.M (Kd.int .i64) _ _ _ 1 [.int .i64 1] from rfl) (Reps.one (show Kd.M (Kd.int .i64) _ _ _ 1 [.int .i64 1] from rfl) (Reps.one (show Kd.M (Kd.int .i64) _ _ _ 1 [.int .i64 1] from rfl) (Reps.one (show Kd.M (Kd.int .i64) _ _ _ 1 [.int .i64 1] from rfl) (Reps.one (show Kd.M (Kd.int .i64) _ _ _ 1 [.int .i64 1] from rfl) (Reps.one (show Kd.M (Kd.int .i64) _ _ _ 1 [.int .i64 1] from rfl) (Reps.one (show Kd.M (Kd.int .i64) _ _ _ 1 [.int .i64 1] from rfl) (Reps.one (show Kd.M (Kd.int .i64) _ _ _ 1 [.int .i64 1] from rfl) (Reps.one (show Kd.M (Kd.int .i64) _ _ _ 1 [.int .i64 1] from rfl) (Reps.one (show Kd.M (Kd.int .i64) _ _ _ 1 [.int .i64 1] from rfl) (Reps.one (show Kd.M (Kd.int .i64) _ _ _ 1 [.int .i64 1] from rfl) (Reps.one (show Kd.M (Kd.int .i64) _ _ _ 1 [.int .i64 1] from rfl) (Reps.one (show Kd.M (Kd.int .i64) _ _ _ 1 [.int .i64 1] from rfl) (Reps.one (show Kd.M (Kd.int .i64) _ _ _ 1 [.int .i64 1] from rfl) (Reps.one (show Kd.M (Kd.int .i64) _ _ _ 1 [.int .i64 1] from rfl) (Reps.one (show Kd.M (Kd.int .i64) _ _ _ 1 [.int .i64 1] from rfl) (Reps.one (show Kd.M (Kd.int .i64) _ _ _ 1 [.int .i64 1] from rfl) (Reps.one (show Kd.M (Kd.int .i64) _ _ _ 1 [.int .i64 1] from rfl) (Reps.one (show Kd.M (Kd.int .i64) _ _ _ 1 [.int .i64 1] from rfl) (Reps.one (show Kd.M (Kd.int .i64) _ _ _ 1 [.int .i64 1] from rfl) (Reps.one (show Kd.M (Kd.int .i64) _ _ _ 2 [.int .i64 2] from rfl) (Reps.one (show Kd.M (Kd.int .i64) _ _ _ 3 [.int .i64 3] from rfl) (Reps.one (show Kd.M (Kd.int .i64) _ _ _ 4 [.int .i64 4] from rfl) (Reps.one (show Kd.M (Kd.int .i64) _ _ _ 3 [.int .i64 3] from rfl) (Reps.one (show Kd.M (Kd.int .i64) _ _ _ 5 [.int .i64 5] from rfl) (Reps.one (show Kd.M (Kd.int .i64) _ _ _ 6 [.int .i64 6] from rfl) (Reps.one (show Kd.M (Kd.int .i64) _ _ _ 7 [.int .i64 7] from rfl) (Reps.one (show Kd.M (Kd.int .i64) _ _ _ 8 [.int .i64 8] from rfl) (Reps.one (show Kd.M (Kd.int .i64) _ _ _ 9 [.int .i64 9] from rfl) (Reps.one (show Kd.M (Kd.int .i64) _ _ _ 9 [.int .i64 9] from rfl) (Reps.one (show Kd.M (Kd.int .i64) _ _ _ 8 [.int .i64 8] from rfl) (Reps.one (show Kd.M (Kd.int .i64) _ _ _ 0 [.int .i64 0] from rfl) (Reps.one (show Kd.M (Kd.int .i64) _ _ _ 0 [.int .i64 0] from rfl) (Reps.none _ _)))))))))))))))))))))))))))))))))))); intro v142 w4 ho5 hb hg_ hnew_; clear hg_ hnew_; (first | rw [← Ny141.out] at ho5 | (simp only [Int.reduceToNat] at ho5; rw [← Ny141.out] at ho5)); replace HO143 := aM_ (Kd.R_lower ho5 (bY_ (bl_ HB))); replace HB := aM_ (bT_ (bl_ HB) hb); clear hb ho5; obtain ⟨Ao6, co6, eo6⟩ := Kd.R_slice HO143.out; subst eo6; have p144 : 0 ≤ (a0 : Int) := oD_; have q144 : a0 < (y141.length : Int) := oD_; obtain ⟨ad144, e144, hx144_0⟩ := Kd.at_int (Kd.R_reads' HO143.out).2.2 a0 p144 q144; cases e144; replace p144 := eq_true p144; replace q144 := eq_true q144))
   go_ret; exact ⟨eR_, bl_ HB⟩
  rw [if_neg c3] at H; exact absurd H (by simp)
 rw [if_neg c2] at H; exact absurd H (by simp)
def r0_Num.f (a0 : Int) (a1 : Int) : Option (Bool) := if a0 ≥ 0 then (some (decide (a0 ≤ a1))) else (some false)
theorem r0_Num.calls (a0 : Int) (a1 : Int) (r : Bool) (w : World) (h : r0_Num.f a0 a1 = some r) :
    Calls Tryz.prog 74 #[.int .i64 a0, .int .i64 a1] w fun e w' => e = .returned (.bool r) ∧ Dr_ w w' := by
 have H : (if a0 ≥ 0 then (some (decide (a0 ≤ a1))) else (some false)) = some r := h; clear h
 by_cases c3 : a0 ≥ 0
 ·rw [if_pos c3] at H; have c3b0 := dE_ c3; clear c3; obtain rfl := oI_ H; go_enter Tryz.func74, Tryz.ntmps74; go_wp2; go_ret; exact ⟨eQ_, dR_⟩
 rw [if_neg c3] at H; have c3b0 := dF_ c3; clear c3; obtain rfl := oI_ H; go_enter Tryz.func74, Tryz.ntmps74; go_wp2; go_ret; exact ⟨eQ_, dR_⟩
def r3_reg.f (a0 : Int) (a1 : Bool) : Option (Bool) := if a1 = true then ((r0_Num.f a0 15).bind fun t145 => (some t145)) else (some (a0 == 0))
theorem r3_reg.calls (a0 : Int) (a1 : Bool) (r : Bool) (w : World) (h : r3_reg.f a0 a1 = some r) :
    Calls Tryz.prog 68 #[.int .i64 a0, .bool a1] w fun e w' => e = .returned (.bool r) ∧ Dr_ w w' := by
 have H : (if a1 = true then ((r0_Num.f a0 15).bind fun t145 => (some t145)) else (some (a0 == 0))) = some r := h; clear h
 by_cases c3 : a1 = true
 ·subst c3; rw [if_pos rfl] at H; obtain ⟨t145, A4, H⟩ := oB_ H; obtain rfl := oI_ H; go_enter Tryz.func68, Tryz.ntmps68
  go_wp2_with (first | ((with_reducible refine gC_ (f := 74) rfl ?_); refine gL_ (some 7) Tryz.func74 #[.int .i64 a0, .int .i64 15] rfl ?_; (with_reducible refine (r0_Num.calls a0 15 t145 _ A4.out).mono ?_); rintro e w' ⟨rfl, ⟨nd, rfl⟩⟩; refine ⟨_, rfl, ?_⟩))
  go_ret; exact ⟨eQ_, dR_⟩
 replace c3 := eF_ c3; subst c3; rw [if_neg Bool.false_ne_true] at H; obtain rfl := oI_ H; go_enter Tryz.func68, Tryz.ntmps68; go_wp2; go_ret; exact ⟨eQ_, dR_⟩
def r1_Fits.f (a0 : Int) (a1 : Int) : Option (Bool) := if 0 ≤ (wrap64 (a1 - 1)) then (if a0 ≥ (wrap64 (-(shl .i64 1 (wrap64 (a1 - 1))))) then (some (decide (a0 < (shl .i64 1 (wrap64 (a1 - 1)))))) else (some false)) else (none)
theorem r1_Fits.calls (a0 : Int) (a1 : Int) (r : Bool) (w : World) (h : r1_Fits.f a0 a1 = some r) :
    Calls Tryz.prog 72 #[.int .i64 a0, .int .i64 a1] w fun e w' => e = .returned (.bool r) ∧ Dr_ w w' := by
 have H : (if 0 ≤ (wrap64 (a1 - 1)) then (if a0 ≥ (wrap64 (-(shl .i64 1 (wrap64 (a1 - 1))))) then (some (decide (a0 < (shl .i64 1 (wrap64 (a1 - 1)))))) else (some false)) else (none)) = some r := h; clear h; obtain ⟨ji3, hji3⟩ : ∃ j_ : Int, (wrap64 (a1 - 1)) = j_ := ⟨_, rfl⟩
 replace H : (if 0 ≤ (ji3) then (if a0 ≥ (wrap64 (-(shl .i64 1 (ji3)))) then (some (decide (a0 < (shl .i64 1 (ji3))))) else (some false)) else (none)) = some r := by first | (rw [hji3] at H; exact H) | (simp only [hji3] at H ⊢; exact H)
 have hji3w : (IntKind.i64.wrap (a1 - 1)) = ji3 := (i64_w _).trans hji3
 by_cases c4 : 0 ≤ (ji3)
 ·rw [if_pos c4] at H; have c4b0 := eq_true c4; have c4b1 := dE_ c4; clear c4; obtain ⟨ji5, hji5⟩ : ∃ j_ : Int, (shl .i64 1 (ji3)) = j_ := ⟨_, rfl⟩
  replace H : (if a0 ≥ (wrap64 (-(ji5))) then (some (decide (a0 < (ji5)))) else (some false)) = some r := by first | (rw [hji5] at H; exact H) | (simp only [hji5] at H ⊢; exact H)
  have hji5_ : (IntKind.i64.wrap (1 * 2 ^ min (ji3).toNat 64)) = ji5 := hji5; have hji5z : (ji3) ≤ 64 → (IntKind.i64.wrap (1 * 2 ^ (ji3).toNat)) = ji5 := shl_small hji5; have hji5u : (IntKind.i64.wrap (2 ^ min (ji3).toNat 64)) = ji5 := by have h_ := hji5_; rw [Int.one_mul] at h_; exact h_
  have hji5v : (ji3) ≤ 64 → (IntKind.i64.wrap (2 ^ (ji3).toNat)) = ji5 := fun hle_ => by have h_ := hji5z hle_; rw [Int.one_mul] at h_; exact h_
  have hji5y : (wrap64 (1 * 2 ^ min (ji3).toNat 64)) = ji5 := (i64_w _).symm.trans hji5_; have hji5x : (ji3) ≤ 64 → (wrap64 (1 * 2 ^ (ji3).toNat)) = ji5 := fun h_ => (i64_w _).symm.trans (hji5z h_)
  by_cases c6 : a0 ≥ (wrap64 (-(ji5)))
  ·rw [if_pos c6] at H; have c6b0 := dE_ c6; clear c6; obtain rfl := oI_ H; go_enter Tryz.func72, Tryz.ntmps72; go_wp2; go_ret; exact ⟨by first | rfl | (simp; done) | (simp only [← hji3, ← hji5] <;> (first | rfl | simp)) | (simp [*]; done) | (congr 1; rw [Bool.eq_iff_iff]; simp; done), dR_⟩
  rw [if_neg c6] at H; have c6b0 := dF_ c6; clear c6; obtain rfl := oI_ H; go_enter Tryz.func72, Tryz.ntmps72; go_wp2; go_ret; exact ⟨by first | rfl | (simp; done) | (simp only [← hji3, ← hji5] <;> (first | rfl | simp)) | (simp [*]; done) | (congr 1; rw [Bool.eq_iff_iff]; simp; done), dR_⟩
 rw [if_neg c4] at H; exact absurd H (by simp)
end
section
attribute [local go_sem] max2_int min2_int max_two min_two max_three min_three max_four min_four
def r3_Ends.f (a0 : Int) : Option (Bool) := (r0_Between.f a0 28 33).bind fun t164 => (some t164)
theorem r3_Ends.calls (a0 : Int) (r : Bool) (w : World) (h : r3_Ends.f a0 = some r) :
    Calls Tryz.prog 39 #[.int .i64 a0] w fun e w' => e = .returned (.bool r) ∧ Dr_ w w' := by
 have H : ((r0_Between.f a0 28 33).bind fun t164 => (some t164)) = some r := h; clear h; obtain ⟨t164, A2, H⟩ := oB_ H; obtain rfl := oI_ H; go_enter Tryz.func39, Tryz.ntmps39
 go_wp2_with (first | ((with_reducible refine gC_ (f := 76) rfl ?_); refine gL_ (some 4) Tryz.func76 #[.int .i64 a0, .int .i64 28, .int .i64 33] rfl ?_; (with_reducible refine (r0_Between.calls a0 28 33 t164 _ A2.out).mono ?_); rintro e w' ⟨rfl, ⟨nd, rfl⟩⟩; refine ⟨_, rfl, ?_⟩))
 go_ret; exact ⟨eQ_, dR_⟩
end
end Go.Proofs.YtibfkkjkahpobaaGreat.PDag
