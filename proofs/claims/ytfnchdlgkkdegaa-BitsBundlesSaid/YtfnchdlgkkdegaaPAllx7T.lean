-- the texts that this claim needs, out of this session's and its print's (wip/shrink.py)
import Derived.Test.YtfnchdlgkkdegaaPAllx0T
namespace Go.Proofs.Ytfnchdlgkkdegaa.PAll
open Go.RowKit Go.Proofs.YtfnchdlgkkdegaaW.PrintWords Go.Proofs.YtfnchdlgkkdegaaW.PrintLast Go.Proofs.YtfnchdlgkkdegaaW.PrintMore
attribute [local go_sem] max2_int min2_int max_two min_two max_three min_three max_four min_four   -- for this text's walks alone
set_option linter.unusedVariables false
set_option linter.unusedSimpArgs false
mutual
def r3_Name.j0 : Nat → ByteArray → Bool → Option (Bool)
  | 0, _, _ => none
  | k + 1, x0, x21 => if x21 = true then (some false) else (r3_Name.l0 k x0 0)
def r3_Name.l0 : Nat → ByteArray → Int → Option (Bool)
  | 0, _, _ => none
  | k + 1, x0, x3 => if x3 < (x0.size : Int) then (if 0 ≤ x3 then (if (bt x0 x3) ≥ 97 then (if (bt x0 x3) ≤ 122 then (r3_Name.j2 k x0 x3 (!true)) else (if (bt x0 x3) = 95 then (r3_Name.j2 k x0 x3 (!true)) else (if (bt x0 x3) ≥ 48 then (r3_Name.j2 k x0 x3 (!(decide ((bt x0 x3) ≤ 57)))) else (r3_Name.j2 k x0 x3 (!false))))) else (if (bt x0 x3) = 95 then (r3_Name.j2 k x0 x3 (!true)) else (if (bt x0 x3) ≥ 48 then (r3_Name.j2 k x0 x3 (!(decide ((bt x0 x3) ≤ 57)))) else (r3_Name.j2 k x0 x3 (!false))))) else (none)) else (some true)
def r3_Name.j2 : Nat → ByteArray → Int → Bool → Option (Bool)
  | 0, _, _, _ => none
  | k + 1, x0, x3, x56 => if x56 = true then (some false) else (r3_Name.l0 k x0 (wrap64 (x3 + 1)))
end
def r3_Name.f (k : Nat) (a0 : ByteArray) : Option (Bool) := if (a0.size : Int) = 0 then (r3_Name.j0 k a0 true) else (if (a0.size : Int) > 12 then (r3_Name.j0 k a0 true) else (if 0 < (a0.size : Int) then (if (bt a0 0) ≥ 48 then (r3_Name.j0 k a0 (decide ((bt a0 0) ≤ 57))) else (r3_Name.j0 k a0 false)) else (none)))
set_option maxHeartbeats 8000000 in
set_option maxRecDepth 100000 in
theorem r3_Name.calls (k : Nat) (a0 : ByteArray) (r : Bool) (w : World) (h : r3_Name.f k a0 = some r) :
    Calls Try.prog 32 #[.string a0] w fun e w' => e = .returned (.bool r) ∧ Dr_ w w' := by
 have H : (if (a0.size : Int) = 0 then (r3_Name.j0 k a0 true) else (if (a0.size : Int) > 12 then (r3_Name.j0 k a0 true) else (if 0 < (a0.size : Int) then (if (bt a0 0) ≥ 48 then (r3_Name.j0 k a0 (decide ((bt a0 0) ≤ 57))) else (r3_Name.j0 k a0 false)) else (none)))) = some r := h
 clear h
 have HC2 := As_.mk H
 clear H
 go_enter Try.func32, Try.ntmps32
 go_upto_region 1 with (fail)
 go_cut [21] (fun v21 wc => ∃ (kq : Nat) (x21_1 : Bool), v21 = .bool x21_1 ∧ As_ (r3_Name.j0 kq a0 x21_1 = some r) ∧ As_ (kq ≤ k) ∧ Dr_ w wc)
 case first =>
  have H := HC2.out
  clear HC2
  by_cases c3 : (a0.size : Int) = 0
  ·rw [if_pos c3] at H
   have c3b0 : ((a0.size : Int) == 0) = true := beq_iff_eq.mpr c3
   have c3b1 : ((a0.size : Int) != 0) = false := bne_eq_false_iff_eq.mpr c3
   clear c3
   (first | rw [c3b0] | (simp only [i64_w, i32_w]; rw [c3b0]) | skip)
   have H' := As_.mk H
   clear H
   go_wp2
   go_meet
   case rel => exact ⟨_, (true), (by first | rfl | (simp; done) | (simp [*]; done) | (simp [wrap64]; done) | (congr 1; rw [Bool.eq_iff_iff]; simp; done)), H', ⟨by first | omega | exact Nat.le_refl _⟩, by repeat (first | exact Dr_.refl _ | apply Dr_.step)⟩
  rw [if_neg c3] at H
  have c3b0 : ((a0.size : Int) == 0) = false := beq_eq_false_iff_ne.mpr c3
  have c3b1 : ((a0.size : Int) != 0) = true := bne_iff_ne.mpr c3
  (first | rw [c3b0] | (simp only [i64_w, i32_w]; rw [c3b0]) | skip)
  by_cases c4 : (a0.size : Int) > 12
  ·rw [if_pos c4] at H
   have c4b0 : decide (12 < (a0.size : Int)) = true := decide_eq_true c4
   have c4b1 : decide (12 < a0.size) = true := decide_eq_true (by omega)
   clear c4
   have H' := As_.mk H
   clear H
   go_wp2
   go_meet
   case rel => exact ⟨_, (true), (by first | rfl | (simp; done) | (simp [*]; done) | (simp [wrap64]; done) | (congr 1; rw [Bool.eq_iff_iff]; simp; done)), H', ⟨by first | omega | exact Nat.le_refl _⟩, by repeat (first | exact Dr_.refl _ | apply Dr_.step)⟩
  rw [if_neg c4] at H
  have c4b0 : decide (12 < (a0.size : Int)) = false := decide_eq_false c4
  have c4b1 : decide (12 < a0.size) = false := decide_eq_false (by omega)
  clear c4
  by_cases c5 : 0 < (a0.size : Int)
  ·rw [if_pos c5] at H
   have c5b0 : decide (0 < (a0.size : Int)) = true := decide_eq_true c5
   have c5b1 : decide (0 < a0.size) = true := decide_eq_true (by omega)
   clear c5
   by_cases c7 : (bt a0 0) ≥ 48
   ·rw [if_pos c7] at H
    have c7b0 : decide (48 ≤ (bt a0 0)) = true := decide_eq_true c7
    clear c7
    have H' := As_.mk H
    clear H
    have p6 : 0 ≤ (0 : Int) := (by omega)
    have q6 : 0 < a0.size := (by have : (0 : Int) < (a0.size : Int) := of_decide_eq_true (by assumption); omega)
    have hx6 : ∀ h : 0 < a0.size, ((a0[0]'h).toNat : Int) = bt a0 0 := bt_at a0 0
    clear p6
    have qi6 : (0 < (a0.size : Int)) = True := eq_true (of_decide_eq_true (by assumption))
    replace q6 := eq_true q6
    have p8 : 0 ≤ (0 : Int) := (by omega)
    have q8 : 0 < a0.size := (by have : (0 : Int) < (a0.size : Int) := of_decide_eq_true (by assumption); omega)
    have hx8 : ∀ h : 0 < a0.size, ((a0[0]'h).toNat : Int) = bt a0 0 := bt_at a0 0
    clear p8
    have qi8 : (0 < (a0.size : Int)) = True := eq_true (of_decide_eq_true (by assumption))
    replace q8 := eq_true q8
    go_wp2
    go_meet
    case rel => exact ⟨_, (decide ((bt a0 0) ≤ 57)), (by first | rfl | (simp; done) | (simp [*]; done) | (simp [wrap64]; done) | (congr 1; rw [Bool.eq_iff_iff]; simp; done)), H', ⟨by first | omega | exact Nat.le_refl _⟩, by repeat (first | exact Dr_.refl _ | apply Dr_.step)⟩
   rw [if_neg c7] at H
   have c7b0 : decide (48 ≤ (bt a0 0)) = false := decide_eq_false c7
   clear c7
   have H' := As_.mk H
   clear H
   have p6 : 0 ≤ (0 : Int) := (by omega)
   have q6 : 0 < a0.size := (by have : (0 : Int) < (a0.size : Int) := of_decide_eq_true (by assumption); omega)
   have hx6 : ∀ h : 0 < a0.size, ((a0[0]'h).toNat : Int) = bt a0 0 := bt_at a0 0
   clear p6
   have qi6 : (0 < (a0.size : Int)) = True := eq_true (of_decide_eq_true (by assumption))
   replace q6 := eq_true q6
   go_wp2
   go_meet
   case rel => exact ⟨_, (false), (by first | rfl | (simp; done) | (simp [*]; done) | (simp [wrap64]; done) | (congr 1; rw [Bool.eq_iff_iff]; simp; done)), H', ⟨by first | omega | exact Nat.le_refl _⟩, by repeat (first | exact Dr_.refl _ | apply Dr_.step)⟩
  rw [if_neg c5] at H
  exact absurd H (by simp)
 case rest =>
  clear HC2
  obtain ⟨kq, x21_1, rfl, HA, HJ1, ⟨mc1, rfl⟩⟩ := hcut
  cases kq with
  | zero => exact absurd HA.out (by simp [r3_Name.j0])
  | succ kj1 =>
   have H := HA.out
   clear HA
   simp only [r3_Name.j0] at H
   by_cases c9 : x21_1 = true
   ·subst c9
    have H1 : (some false) = some r := by rw [if_pos rfl] at H; exact H
    clear H
    have H := H1
    clear H1
    obtain rfl := Option.some.inj H
    go_wp2
    go_ret
    exact ⟨by first | rfl | (simp; done) | (simp [*]; done) | (simp [wrap64]; done) | (congr 1; rw [Bool.eq_iff_iff]; simp; done), by repeat (first | exact Dr_.refl _ | apply Dr_.step)⟩
   replace c9 := Bool.eq_false_iff.mpr c9
   subst c9
   have H1 : (r3_Name.l0 kj1 a0 0) = some r := by rw [if_neg (show ¬ (false = true) by decide)] at H; exact H
   clear H
   have H := H1
   clear H1
   have H' := As_.mk H
   clear H
   go_wp2
   go_loopg [3] kj1 (fun kq v3 w' => ∃ (x3_2 : Int), v3 = .int .i64 x3_2 ∧ As_ (r3_Name.l0 kq a0 x3_2 = some r) ∧ As_ (kq ≤ kj1) ∧ Dr_ w w')
   case atStart => exact ⟨(0), (by first | rfl | (simp; done) | (simp [*]; done) | (simp [wrap64]; done) | (congr 1; rw [Bool.eq_iff_iff]; simp; done)), H', ⟨Nat.le_refl _⟩, by repeat (first | exact Dr_.refl _ | apply Dr_.step)⟩
   case round =>
    clear H'
    obtain ⟨x3_2, rfl, HA, HK2, ⟨m2, rfl⟩⟩ := hrel
    cases gk with
    | zero => exact absurd HA.out (by simp [r3_Name.l0])
    | succ k2 =>
     have H := HA.out
     clear HA
     simp only [r3_Name.l0] at H
     by_cases c10 : x3_2 < (a0.size : Int)
     ·rw [if_pos c10] at H
      have c10b0 : decide (x3_2 < (a0.size : Int)) = true := decide_eq_true c10
      clear c10
      have HC11 := As_.mk H
      clear H
      go_upto_region 6 with (fail)
      go_cut [56] (fun v56 wc => ∃ (kq : Nat) (x56_10 : Bool), v56 = .bool x56_10 ∧ As_ (r3_Name.j2 kq a0 x3_2 x56_10 = some r) ∧ As_ (kq ≤ k2) ∧ Dr_ w wc)
      case first =>
       have H := HC11.out
       clear HC11
       by_cases c12 : 0 ≤ x3_2
       ·rw [if_pos c12] at H
        have c12b0 : decide (0 ≤ x3_2) = true := decide_eq_true c12
        clear c12
        (first | rw [c12b0] | (simp only [i64_w, i32_w]; rw [c12b0]) | skip)
        by_cases c14 : (bt a0 x3_2) ≥ 97
        ·rw [if_pos c14] at H
         have c14b0 : decide (97 ≤ (bt a0 x3_2)) = true := decide_eq_true c14
         clear c14
         by_cases c16 : (bt a0 x3_2) ≤ 122
         ·rw [if_pos c16] at H
          have c16b0 : decide ((bt a0 x3_2) ≤ 122) = true := decide_eq_true c16
          clear c16
          have H' := As_.mk H
          clear H
          have p13 : 0 ≤ (x3_2 : Int) := of_decide_eq_true (by assumption)
          have q13 : x3_2 < (a0.size : Int) := of_decide_eq_true (by assumption)
          have hx13 := bt_at a0 x3_2
          replace p13 := eq_true p13
          replace q13 := eq_true q13
          have p15 : 0 ≤ (x3_2 : Int) := of_decide_eq_true (by assumption)
          have q15 : x3_2 < (a0.size : Int) := of_decide_eq_true (by assumption)
          have hx15 := bt_at a0 x3_2
          replace p15 := eq_true p15
          replace q15 := eq_true q15
          go_wp2
          go_meet
          case rel => exact ⟨_, (!true), (by first | rfl | (simp; done) | (simp [*]; done) | (simp [wrap64]; done) | (congr 1; rw [Bool.eq_iff_iff]; simp; done)), H', ⟨by have := HJ1.out; have := HK2.out; first | omega | exact Nat.le_refl _⟩, by repeat (first | exact Dr_.refl _ | apply Dr_.step)⟩
         rw [if_neg c16] at H
         have c16b0 : decide ((bt a0 x3_2) ≤ 122) = false := decide_eq_false c16
         clear c16
         by_cases c18 : (bt a0 x3_2) = 95
         ·rw [if_pos c18] at H
          have c18b0 : ((bt a0 x3_2) == 95) = true := beq_iff_eq.mpr c18
          have c18b1 : ((bt a0 x3_2) != 95) = false := bne_eq_false_iff_eq.mpr c18
          clear c18
          have H' := As_.mk H
          clear H
          have p13 : 0 ≤ (x3_2 : Int) := of_decide_eq_true (by assumption)
          have q13 : x3_2 < (a0.size : Int) := of_decide_eq_true (by assumption)
          have hx13 := bt_at a0 x3_2
          replace p13 := eq_true p13
          replace q13 := eq_true q13
          have p15 : 0 ≤ (x3_2 : Int) := of_decide_eq_true (by assumption)
          have q15 : x3_2 < (a0.size : Int) := of_decide_eq_true (by assumption)
          have hx15 := bt_at a0 x3_2
          replace p15 := eq_true p15
          replace q15 := eq_true q15
          have p17 : 0 ≤ (x3_2 : Int) := of_decide_eq_true (by assumption)
          have q17 : x3_2 < (a0.size : Int) := of_decide_eq_true (by assumption)
          have hx17 := bt_at a0 x3_2
          replace p17 := eq_true p17
          replace q17 := eq_true q17
          go_wp2
          go_meet
          case rel => exact ⟨_, (!true), (by first | rfl | (simp; done) | (simp [*]; done) | (simp [wrap64]; done) | (congr 1; rw [Bool.eq_iff_iff]; simp; done)), H', ⟨by have := HJ1.out; have := HK2.out; first | omega | exact Nat.le_refl _⟩, by repeat (first | exact Dr_.refl _ | apply Dr_.step)⟩
         rw [if_neg c18] at H
         have c18b0 : ((bt a0 x3_2) == 95) = false := beq_eq_false_iff_ne.mpr c18
         have c18b1 : ((bt a0 x3_2) != 95) = true := bne_iff_ne.mpr c18
         by_cases c20 : (bt a0 x3_2) ≥ 48
         ·rw [if_pos c20] at H
          have c20b0 : decide (48 ≤ (bt a0 x3_2)) = true := decide_eq_true c20
          clear c20
          have H' := As_.mk H
          clear H
          have p13 : 0 ≤ (x3_2 : Int) := of_decide_eq_true (by assumption)
          have q13 : x3_2 < (a0.size : Int) := of_decide_eq_true (by assumption)
          have hx13 := bt_at a0 x3_2
          replace p13 := eq_true p13
          replace q13 := eq_true q13
          have p15 : 0 ≤ (x3_2 : Int) := of_decide_eq_true (by assumption)
          have q15 : x3_2 < (a0.size : Int) := of_decide_eq_true (by assumption)
          have hx15 := bt_at a0 x3_2
          replace p15 := eq_true p15
          replace q15 := eq_true q15
          have p17 : 0 ≤ (x3_2 : Int) := of_decide_eq_true (by assumption)
          have q17 : x3_2 < (a0.size : Int) := of_decide_eq_true (by assumption)
          have hx17 := bt_at a0 x3_2
          replace p17 := eq_true p17
          replace q17 := eq_true q17
          have p19 : 0 ≤ (x3_2 : Int) := of_decide_eq_true (by assumption)
          have q19 : x3_2 < (a0.size : Int) := of_decide_eq_true (by assumption)
          have hx19 := bt_at a0 x3_2
          replace p19 := eq_true p19
          replace q19 := eq_true q19
          have p21 : 0 ≤ (x3_2 : Int) := of_decide_eq_true (by assumption)
          have q21 : x3_2 < (a0.size : Int) := of_decide_eq_true (by assumption)
          have hx21 := bt_at a0 x3_2
          replace p21 := eq_true p21
          replace q21 := eq_true q21
          go_wp2
          go_meet
          case rel => exact ⟨_, (!(decide ((bt a0 x3_2) ≤ 57))), (by first | rfl | (simp; done) | (simp [*]; done) | (simp [wrap64]; done) | (congr 1; rw [Bool.eq_iff_iff]; simp; done)), H', ⟨by have := HJ1.out; have := HK2.out; first | omega | exact Nat.le_refl _⟩, by repeat (first | exact Dr_.refl _ | apply Dr_.step)⟩
         rw [if_neg c20] at H
         have c20b0 : decide (48 ≤ (bt a0 x3_2)) = false := decide_eq_false c20
         clear c20
         have H' := As_.mk H
         clear H
         have p13 : 0 ≤ (x3_2 : Int) := of_decide_eq_true (by assumption)
         have q13 : x3_2 < (a0.size : Int) := of_decide_eq_true (by assumption)
         have hx13 := bt_at a0 x3_2
         replace p13 := eq_true p13
         replace q13 := eq_true q13
         have p15 : 0 ≤ (x3_2 : Int) := of_decide_eq_true (by assumption)
         have q15 : x3_2 < (a0.size : Int) := of_decide_eq_true (by assumption)
         have hx15 := bt_at a0 x3_2
         replace p15 := eq_true p15
         replace q15 := eq_true q15
         have p17 : 0 ≤ (x3_2 : Int) := of_decide_eq_true (by assumption)
         have q17 : x3_2 < (a0.size : Int) := of_decide_eq_true (by assumption)
         have hx17 := bt_at a0 x3_2
         replace p17 := eq_true p17
         replace q17 := eq_true q17
         have p19 : 0 ≤ (x3_2 : Int) := of_decide_eq_true (by assumption)
         have q19 : x3_2 < (a0.size : Int) := of_decide_eq_true (by assumption)
         have hx19 := bt_at a0 x3_2
         replace p19 := eq_true p19
         replace q19 := eq_true q19
         go_wp2
         go_meet
         case rel => exact ⟨_, (!false), (by first | rfl | (simp; done) | (simp [*]; done) | (simp [wrap64]; done) | (congr 1; rw [Bool.eq_iff_iff]; simp; done)), H', ⟨by have := HJ1.out; have := HK2.out; first | omega | exact Nat.le_refl _⟩, by repeat (first | exact Dr_.refl _ | apply Dr_.step)⟩
        rw [if_neg c14] at H
        have c14b0 : decide (97 ≤ (bt a0 x3_2)) = false := decide_eq_false c14
        clear c14
        by_cases c23 : (bt a0 x3_2) = 95
        ·rw [if_pos c23] at H
         have c23b0 : ((bt a0 x3_2) == 95) = true := beq_iff_eq.mpr c23
         have c23b1 : ((bt a0 x3_2) != 95) = false := bne_eq_false_iff_eq.mpr c23
         clear c23
         have H' := As_.mk H
         clear H
         have p13 : 0 ≤ (x3_2 : Int) := of_decide_eq_true (by assumption)
         have q13 : x3_2 < (a0.size : Int) := of_decide_eq_true (by assumption)
         have hx13 := bt_at a0 x3_2
         replace p13 := eq_true p13
         replace q13 := eq_true q13
         have p22 : 0 ≤ (x3_2 : Int) := of_decide_eq_true (by assumption)
         have q22 : x3_2 < (a0.size : Int) := of_decide_eq_true (by assumption)
         have hx22 := bt_at a0 x3_2
         replace p22 := eq_true p22
         replace q22 := eq_true q22
         go_wp2
         go_meet
         case rel => exact ⟨_, (!true), (by first | rfl | (simp; done) | (simp [*]; done) | (simp [wrap64]; done) | (congr 1; rw [Bool.eq_iff_iff]; simp; done)), H', ⟨by have := HJ1.out; have := HK2.out; first | omega | exact Nat.le_refl _⟩, by repeat (first | exact Dr_.refl _ | apply Dr_.step)⟩
        rw [if_neg c23] at H
        have c23b0 : ((bt a0 x3_2) == 95) = false := beq_eq_false_iff_ne.mpr c23
        have c23b1 : ((bt a0 x3_2) != 95) = true := bne_iff_ne.mpr c23
        by_cases c25 : (bt a0 x3_2) ≥ 48
        ·rw [if_pos c25] at H
         have c25b0 : decide (48 ≤ (bt a0 x3_2)) = true := decide_eq_true c25
         clear c25
         have H' := As_.mk H
         clear H
         have p13 : 0 ≤ (x3_2 : Int) := of_decide_eq_true (by assumption)
         have q13 : x3_2 < (a0.size : Int) := of_decide_eq_true (by assumption)
         have hx13 := bt_at a0 x3_2
         replace p13 := eq_true p13
         replace q13 := eq_true q13
         have p22 : 0 ≤ (x3_2 : Int) := of_decide_eq_true (by assumption)
         have q22 : x3_2 < (a0.size : Int) := of_decide_eq_true (by assumption)
         have hx22 := bt_at a0 x3_2
         replace p22 := eq_true p22
         replace q22 := eq_true q22
         have p24 : 0 ≤ (x3_2 : Int) := of_decide_eq_true (by assumption)
         have q24 : x3_2 < (a0.size : Int) := of_decide_eq_true (by assumption)
         have hx24 := bt_at a0 x3_2
         replace p24 := eq_true p24
         replace q24 := eq_true q24
         have p26 : 0 ≤ (x3_2 : Int) := of_decide_eq_true (by assumption)
         have q26 : x3_2 < (a0.size : Int) := of_decide_eq_true (by assumption)
         have hx26 := bt_at a0 x3_2
         replace p26 := eq_true p26
         replace q26 := eq_true q26
         go_wp2
         go_meet
         case rel => exact ⟨_, (!(decide ((bt a0 x3_2) ≤ 57))), (by first | rfl | (simp; done) | (simp [*]; done) | (simp [wrap64]; done) | (congr 1; rw [Bool.eq_iff_iff]; simp; done)), H', ⟨by have := HJ1.out; have := HK2.out; first | omega | exact Nat.le_refl _⟩, by repeat (first | exact Dr_.refl _ | apply Dr_.step)⟩
        rw [if_neg c25] at H
        have c25b0 : decide (48 ≤ (bt a0 x3_2)) = false := decide_eq_false c25
        clear c25
        have H' := As_.mk H
        clear H
        have p13 : 0 ≤ (x3_2 : Int) := of_decide_eq_true (by assumption)
        have q13 : x3_2 < (a0.size : Int) := of_decide_eq_true (by assumption)
        have hx13 := bt_at a0 x3_2
        replace p13 := eq_true p13
        replace q13 := eq_true q13
        have p22 : 0 ≤ (x3_2 : Int) := of_decide_eq_true (by assumption)
        have q22 : x3_2 < (a0.size : Int) := of_decide_eq_true (by assumption)
        have hx22 := bt_at a0 x3_2
        replace p22 := eq_true p22
        replace q22 := eq_true q22
        have p24 : 0 ≤ (x3_2 : Int) := of_decide_eq_true (by assumption)
        have q24 : x3_2 < (a0.size : Int) := of_decide_eq_true (by assumption)
        have hx24 := bt_at a0 x3_2
        replace p24 := eq_true p24
        replace q24 := eq_true q24
        go_wp2
        go_meet
        case rel => exact ⟨_, (!false), (by first | rfl | (simp; done) | (simp [*]; done) | (simp [wrap64]; done) | (congr 1; rw [Bool.eq_iff_iff]; simp; done)), H', ⟨by have := HJ1.out; have := HK2.out; first | omega | exact Nat.le_refl _⟩, by repeat (first | exact Dr_.refl _ | apply Dr_.step)⟩
       rw [if_neg c12] at H
       exact absurd H (by simp)
      case rest =>
       clear HC11
       obtain ⟨kq, x56_10, rfl, HA, HJ10, ⟨mc10, rfl⟩⟩ := hcut
       cases kq with
       | zero => exact absurd HA.out (by simp [r3_Name.j2])
       | succ kj10 =>
        have H := HA.out
        clear HA
        simp only [r3_Name.j2] at H
        by_cases c27 : x56_10 = true
        ·subst c27
         have H1 : (some false) = some r := by rw [if_pos rfl] at H; exact H
         clear H
         have H := H1
         clear H1
         obtain rfl := Option.some.inj H
         go_wp2
         go_ret
         exact ⟨by first | rfl | (simp; done) | (simp [*]; done) | (simp [wrap64]; done) | (congr 1; rw [Bool.eq_iff_iff]; simp; done), by repeat (first | exact Dr_.refl _ | apply Dr_.step)⟩
        replace c27 := Bool.eq_false_iff.mpr c27
        subst c27
        have H1 : (r3_Name.l0 kj10 a0 (wrap64 (x3_2 + 1))) = some r := by rw [if_neg (show ¬ (false = true) by decide)] at H; exact H
        clear H
        have H := H1
        clear H1
        have H' := As_.mk H
        clear H
        go_wp2
        go_roundg kj10
        case measure => have := HJ1.out; have := HK2.out; have := HJ10.out; omega
        case rel => exact ⟨(wrap64 (x3_2 + 1)), (by first | rfl | (simp; done) | (simp [*]; done) | (simp [wrap64]; done) | (congr 1; rw [Bool.eq_iff_iff]; simp; done)), H', ⟨by have := HJ1.out; have := HK2.out; have := HJ10.out; omega⟩, by repeat (first | exact Dr_.refl _ | apply Dr_.step)⟩
     rw [if_neg c10] at H
     have c10b0 : decide (x3_2 < (a0.size : Int)) = false := decide_eq_false c10
     clear c10
     obtain rfl := Option.some.inj H
     go_wp2
     go_ret
     exact ⟨by first | rfl | (simp; done) | (simp [*]; done) | (simp [wrap64]; done) | (congr 1; rw [Bool.eq_iff_iff]; simp; done), by repeat (first | exact Dr_.refl _ | apply Dr_.step)⟩
def r1_Fits.f (a0 : Int) (a1 : Int) : Option (Bool) := if 0 ≤ (wrap64 (a1 - 1)) then (if a0 ≥ (wrap64 (-(shl .i64 1 (wrap64 (a1 - 1))))) then (some (decide (a0 < (shl .i64 1 (wrap64 (a1 - 1)))))) else (some false)) else (none)
set_option maxHeartbeats 8000000 in
set_option maxRecDepth 100000 in
theorem r1_Fits.calls (a0 : Int) (a1 : Int) (r : Bool) (w : World) (h : r1_Fits.f a0 a1 = some r) :
    Calls Try.prog 33 #[.int .i64 a0, .int .i64 a1] w fun e w' => e = .returned (.bool r) ∧ Dr_ w w' := by
 have H : (if 0 ≤ (wrap64 (a1 - 1)) then (if a0 ≥ (wrap64 (-(shl .i64 1 (wrap64 (a1 - 1))))) then (some (decide (a0 < (shl .i64 1 (wrap64 (a1 - 1)))))) else (some false)) else (none)) = some r := h
 clear h
 obtain ⟨ji3, hji3⟩ : ∃ j_ : Int, (wrap64 (a1 - 1)) = j_ := ⟨_, rfl⟩
 replace H : (if 0 ≤ (ji3) then (if a0 ≥ (wrap64 (-(shl .i64 1 (ji3)))) then (some (decide (a0 < (shl .i64 1 (ji3))))) else (some false)) else (none)) = some r := by first | (rw [hji3] at H; exact H) | (simp only [hji3] at H ⊢; exact H)
 have hji3w : (IntKind.i64.wrap (a1 - 1)) = ji3 := (i64_w _).trans hji3
 by_cases c4 : 0 ≤ (ji3)
 ·rw [if_pos c4] at H
  have c4b0 := eq_true c4
  have c4b1 : decide (0 ≤ (ji3)) = true := decide_eq_true c4
  clear c4
  obtain ⟨ji5, hji5⟩ : ∃ j_ : Int, (shl .i64 1 (ji3)) = j_ := ⟨_, rfl⟩
  replace H : (if a0 ≥ (wrap64 (-(ji5))) then (some (decide (a0 < (ji5)))) else (some false)) = some r := by first | (rw [hji5] at H; exact H) | (simp only [hji5] at H ⊢; exact H)
  have hji5_ : (IntKind.i64.wrap (1 * 2 ^ min (ji3).toNat 64)) = ji5 := hji5
  have hji5z : (ji3) ≤ 64 → (IntKind.i64.wrap (1 * 2 ^ (ji3).toNat)) = ji5 := shl_small hji5
  have hji5u : (IntKind.i64.wrap (2 ^ min (ji3).toNat 64)) = ji5 := by have h_ := hji5_; rw [Int.one_mul] at h_; exact h_
  have hji5v : (ji3) ≤ 64 → (IntKind.i64.wrap (2 ^ (ji3).toNat)) = ji5 := fun hle_ => by have h_ := hji5z hle_; rw [Int.one_mul] at h_; exact h_
  have hji5y : (wrap64 (1 * 2 ^ min (ji3).toNat 64)) = ji5 := (i64_w _).symm.trans hji5_
  have hji5x : (ji3) ≤ 64 → (wrap64 (1 * 2 ^ (ji3).toNat)) = ji5 := fun h_ => (i64_w _).symm.trans (hji5z h_)
  by_cases c6 : a0 ≥ (wrap64 (-(ji5)))
  ·rw [if_pos c6] at H
   have c6b0 : decide ((wrap64 (-(ji5))) ≤ a0) = true := decide_eq_true c6
   clear c6
   obtain rfl := Option.some.inj H
   go_enter Try.func33, Try.ntmps33
   go_wp2
   go_ret
   exact ⟨by first | rfl | (simp; done) | (simp only [← hji3, ← hji5] <;> (first | rfl | simp)) | (simp [*]; done) | (congr 1; rw [Bool.eq_iff_iff]; simp; done), by repeat (first | exact Dr_.refl _ | apply Dr_.step)⟩
  rw [if_neg c6] at H
  have c6b0 : decide ((wrap64 (-(ji5))) ≤ a0) = false := decide_eq_false c6
  clear c6
  obtain rfl := Option.some.inj H
  go_enter Try.func33, Try.ntmps33
  go_wp2
  go_ret
  exact ⟨by first | rfl | (simp; done) | (simp only [← hji3, ← hji5] <;> (first | rfl | simp)) | (simp [*]; done) | (congr 1; rw [Bool.eq_iff_iff]; simp; done), by repeat (first | exact Dr_.refl _ | apply Dr_.step)⟩
 rw [if_neg c4] at H
 exact absurd H (by simp)
end Go.Proofs.Ytfnchdlgkkdegaa.PAll
