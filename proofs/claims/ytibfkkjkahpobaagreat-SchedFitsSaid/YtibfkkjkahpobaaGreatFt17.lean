import Derived.Test.YtibfkkjkahpobaaGreatFt16
import Derived.Laws.BitsAllLaws
import Derived.Lib.Strings
import Derived.Test.YtibfkkjkahpobaaGreatFt15
set_option linter.unusedVariables false
set_option linter.unusedSimpArgs false
set_option maxHeartbeats 8000000
set_option maxRecDepth 100000
open Go.RowKit Go.Proofs.YtibfkkjkahpobaaGreatW.PrintWords Go.Proofs.YtibfkkjkahpobaaGreatW.PrintLast Go.Proofs.YtibfkkjkahpobaaGreatW.PrintMore
namespace Go.Proofs.YtibfkkjkahpobaaGreat.PDag
section
def formOf (op : Int) : Int := rd [0, 1, 1, 1, 1, 1, 1, 1, 1, 1, 1, 1, 1, 1, 1, 1, 1, 1, 1, 1, 1, 2, 3, 4, 3, 5, 6, 7, 8, 9, 9, 8, 0, 0] op
def hasD (f : Int) : Bool := f == 1 || f == 2 || f == 3 || f == 4 || f == 6
def hasA (f : Int) : Bool := f == 1 || f == 2 || f == 3 || f == 5 || f == 7 || f == 9
def hasB (f : Int) : Bool := f == 1 || f == 5
def target (f : Int) : Bool := f == 8 || f == 9
def bitsOf (f : Int) : Int := if f = 3 ∨ f = 5 ∨ f = 9 then 14 else if f = 4 ∨ f = 8 then 18 else 0
theorem upto34 {p : Int → Prop} (h : ∀ n : Fin 34, p (n.val : Int)) (op : Int) (h0 : 0 ≤ op) (h1 : op ≤ 33) : p op := by
  have := h ⟨op.toNat, by omega⟩
  rwa [show ((op.toNat : Nat) : Int) = op from by omega] at this
theorem upto10 {p : Int → Prop} (h : ∀ n : Fin 10, p (n.val : Int)) (f : Int) (h0 : 0 ≤ f) (h1 : f ≤ 9) : p f := by
  have := h ⟨f.toNat, by omega⟩
  rwa [show ((f.toNat : Nat) : Int) = f from by omega] at this
theorem formOf_range (op : Int) : 0 ≤ op → op ≤ 33 → 0 ≤ formOf op ∧ formOf op ≤ 9 := upto34 (p := fun op => 0 ≤ formOf op ∧ formOf op ≤ 9) (by decide) op
theorem formOf_li (op : Int) : 0 ≤ op → op ≤ 33 → (formOf op = 4 ↔ op = 23) := upto34 (p := fun op => formOf op = 4 ↔ op = 23) (by decide) op
theorem form_eq (op : Int) (h0 : 0 ≤ op) (h1 : op ≤ 33) : r3_Form.f op = some (formOf op) := upto34 (p := fun op => r3_Form.f op = some (formOf op)) (by decide) op h0 h1
theorem shape_eq {k : Nat} (hk : 10 ≤ k) (op : Int) (h0 : 0 ≤ op) (h1 : op ≤ 33) : isa_Shape.f k op = some (formOf op) :=
  at_rounds (isa_Shape.mono op) hk (upto34 (p := fun op => isa_Shape.f 10 op = some (formOf op)) (by decide) op h0 h1)
theorem isa_hasD (f : Int) (h0 : 0 ≤ f) (h1 : f ≤ 9) : isa_HasD.f f = some (hasD f) := upto10 (p := fun f => isa_HasD.f f = some (hasD f)) (by decide) f h0 h1
theorem isa_hasA {k : Nat} (hk : 10 ≤ k) (f : Int) (h0 : 0 ≤ f) (h1 : f ≤ 9) : isa_HasA.f k f = some (hasA f) :=
  at_rounds (isa_HasA.mono f) hk (upto10 (p := fun f => isa_HasA.f 10 f = some (hasA f)) (by decide) f h0 h1)
theorem isa_hasB (f : Int) (h0 : 0 ≤ f) (h1 : f ≤ 9) : isa_HasB.f f = some (hasB f) := upto10 (p := fun f => isa_HasB.f f = some (hasB f)) (by decide) f h0 h1
theorem isa_target (f : Int) (h0 : 0 ≤ f) (h1 : f ≤ 9) : isa_Target.f f = some (target f) := upto10 (p := fun f => isa_Target.f f = some (target f)) (by decide) f h0 h1
theorem isa_bits {k : Nat} (hk : 10 ≤ k) (f : Int) (h0 : 0 ≤ f) (h1 : f ≤ 9) : isa_Bits.f k f = some (bitsOf f) :=
  at_rounds (isa_Bits.mono f) hk (upto10 (p := fun f => isa_Bits.f 10 f = some (bitsOf f)) (by decide) f h0 h1)
theorem ref_hasD (f : Int) (h0 : 0 ≤ f) (h1 : f ≤ 9) : r3_HasD.f f = some (hasD f) := upto10 (p := fun f => r3_HasD.f f = some (hasD f)) (by decide) f h0 h1
theorem ref_hasA (f : Int) (h0 : 0 ≤ f) (h1 : f ≤ 9) : r3_HasA.f f = some (hasA f) := upto10 (p := fun f => r3_HasA.f f = some (hasA f)) (by decide) f h0 h1
theorem ref_hasB (f : Int) (h0 : 0 ≤ f) (h1 : f ≤ 9) : r3_HasB.f f = some (hasB f) := upto10 (p := fun f => r3_HasB.f f = some (hasB f)) (by decide) f h0 h1
theorem ref_target (f : Int) (h0 : 0 ≤ f) (h1 : f ≤ 9) : r3_Target.f f = some (target f) := upto10 (p := fun f => r3_Target.f f = some (target f)) (by decide) f h0 h1
theorem ref_bits {k : Nat} (hk : 10 ≤ k) (f : Int) (h0 : 0 ≤ f) (h1 : f ≤ 9) : r3_Bits.f k f = some (bitsOf f) :=
  at_rounds (r3_Bits.mono f) hk (upto10 (p := fun f => r3_Bits.f 10 f = some (bitsOf f)) (by decide) f h0 h1)
def regOk (has : Bool) (n : Int) : Bool := if has = true then decide (0 ≤ n ∧ n ≤ 15) else n == 0
def fit14 (n : Int) : Bool := decide (-8192 ≤ n ∧ n < 8192)
def fit18 (n : Int) : Bool := decide (-131072 ≤ n ∧ n < 131072)
theorem isa_reg_eq (has : Bool) (n : Int) : isa_reg.f has n = some (regOk has n) := by
  unfold isa_reg.f regOk
  cases has with
  | true =>
    by_cases h : n = 0
    · subst h; rfl
    · rw [if_neg h]
      by_cases h2 : n > 0
      · simp only [if_pos h2, if_true, Option.some.injEq]
        by_cases h3 : n < 16 <;> simp [h3] <;> omega
      · simp only [if_neg h2, if_true, Option.some.injEq]
        symm; rw [decide_eq_false_iff_not]; omega
  | false =>
    by_cases h : n = 0
    · subst h; rfl
    · simp [h]
theorem ref_reg_eq (has : Bool) (n : Int) : r3_reg.f n has = some (regOk has n) := by
  unfold r3_reg.f regOk r0_Num.f
  cases has with
  | true =>
    by_cases h : n ≥ 0
    · simp only [if_pos h, if_true, Option.bind_some, Option.some.injEq]
      by_cases h3 : n ≤ 15 <;> simp [h3] <;> omega
    · simp only [if_neg h, if_true, Option.bind_some, Option.some.injEq]
      symm; rw [decide_eq_false_iff_not]; omega
  | false => simp
theorem within14 (n : Int) : word_Within.f n 14 = some (fit14 n) := by
  unfold word_Within.f fit14; rw [if_pos (by decide +kernel), show shl .i64 (-1) (wrap64 (14 - 1)) = -8192 from by decide +kernel, show shl .i64 1 (wrap64 (14 - 1)) = 8192 from by decide +kernel]
  by_cases h : n ≥ -8192
  · rw [if_pos h]; by_cases h2 : n < 8192 <;> simp [h2]; omega
  · rw [if_neg h]; congr 1; symm; rw [decide_eq_false_iff_not]; omega
theorem within18 (n : Int) : word_Within.f n 18 = some (fit18 n) := by
  unfold word_Within.f fit18; rw [if_pos (by decide +kernel), show shl .i64 (-1) (wrap64 (18 - 1)) = -131072 from by decide +kernel, show shl .i64 1 (wrap64 (18 - 1)) = 131072 from by decide +kernel]
  by_cases h : n ≥ -131072
  · rw [if_pos h]; by_cases h2 : n < 131072 <;> simp [h2]; omega
  · rw [if_neg h]; congr 1; symm; rw [decide_eq_false_iff_not]; omega
theorem fits14 (n : Int) : r1_Fits.f n 14 = some (fit14 n) := by
  unfold r1_Fits.f fit14; rw [if_pos (by decide +kernel), show wrap64 (-(shl .i64 1 (wrap64 (14 - 1)))) = -8192 from by decide +kernel, show shl .i64 1 (wrap64 (14 - 1)) = 8192 from by decide +kernel]
  by_cases h : n ≥ -8192
  · rw [if_pos h]; by_cases h2 : n < 8192 <;> simp [h2]; omega
  · rw [if_neg h]; congr 1; symm; rw [decide_eq_false_iff_not]; omega
theorem fits18 (n : Int) : r1_Fits.f n 18 = some (fit18 n) := by
  unfold r1_Fits.f fit18; rw [if_pos (by decide +kernel), show wrap64 (-(shl .i64 1 (wrap64 (18 - 1)))) = -131072 from by decide +kernel, show shl .i64 1 (wrap64 (18 - 1)) = 131072 from by decide +kernel]
  by_cases h : n ≥ -131072
  · rw [if_pos h]; by_cases h2 : n < 131072 <;> simp [h2]; omega
  · rw [if_neg h]; congr 1; symm; rw [decide_eq_false_iff_not]; omega
def letter (c : Int) : Bool := c == 95 || (decide (97 ≤ c) && decide (c ≤ 122))
def digit (c : Int) : Bool := decide (48 ≤ c) && decide (c ≤ 57)
def nameFrom (s : ByteArray) (i : Int) : Nat → Bool
  | 0 => true
  | d + 1 => (letter (bt s i) || digit (bt s i)) && nameFrom s (i + 1) d
def nameOk (s : ByteArray) : Bool := decide (0 < s.size) && (decide (s.size ≤ 12) && (letter (bt s 0) && nameFrom s 0 s.size))
theorem letter_eq (c : Int) : isa_letter.f c = some (letter c) := by
  unfold isa_letter.f letter
  by_cases h : c = 95
  · simp [h]
  · by_cases h2 : c ≥ 97 <;> simp [h, h2]
theorem wrapI {i : Int} (h0 : 0 ≤ i) (h : i ≤ 4611686018427387904) : wrap64 (i + 1) = i + 1 := by
  unfold wrap64; omega
theorem isa_name_loop (s : ByteArray) (hs : s.size ≤ 12) : ∀ (d : Nat) (k : Nat) (i : Int), 0 ≤ i → i + d = s.size → 2 * d + 1 ≤ k → isa_Name2.l0 k s s.size i = some (nameFrom s i d)
  | 0, k, i, h0, h1, hk => by
    obtain ⟨m, rfl⟩ : ∃ m, k = m + 1 := ⟨k - 1, by omega⟩
    simp only [isa_Name2.l0, nameFrom]; rw [if_neg (by omega)]
  | d + 1, k, i, h0, h1, hk => by
    obtain ⟨m, rfl⟩ : ∃ m, k = m + 2 := ⟨k - 2, by omega⟩
    simp only [isa_Name2.l0, nameFrom]; rw [if_pos (by omega), if_pos h0, if_pos (by omega), letter_eq]; simp only [Option.bind_some]; have hw : wrap64 (i + 1) = i + 1 := wrapI h0 (by omega); have ih := isa_name_loop s hs d m (i + 1) (by omega) (by omega) (by omega)
    cases hl : letter (bt s i) with
    | true => simp only [if_true, isa_Name2.j2, Bool.false_eq_true, if_false, hw, ih, Bool.true_or, Bool.true_and]
    | false =>
      simp only [Bool.false_eq_true, if_false, Bool.false_or]
      by_cases h3 : bt s i < 48
      · rw [if_pos h3]; simp only [isa_Name2.j2, if_true]; congr 1; simp [digit]; omega
      · rw [if_neg h3]
        by_cases h4 : bt s i > 57
        · simp only [isa_Name2.j2, decide_eq_true h4, if_true]; congr 1; simp [digit]; omega
        · simp only [isa_Name2.j2, decide_eq_false h4, Bool.false_eq_true, if_false, hw, ih]; have : digit (bt s i) = true := by simp [digit]; omega
          rw [this, Bool.true_and]
theorem toList_nil (s : ByteArray) : s.toList = [] ↔ s.size = 0 := by
  rw [ByteArray.toList_eq, Lib.size_eq]; exact List.length_eq_zero_iff.symm
theorem isa_name {k : Nat} (hk : 40 ≤ k) (s : ByteArray) : isa_Name2.f k s = some (nameOk s) := by
  obtain ⟨m, rfl⟩ : ∃ m, k = m + 1 := ⟨k - 1, by omega⟩
  unfold isa_Name2.f nameOk
  by_cases h : s.toList = []
  · rw [if_pos h]; have h0 : s.size = 0 := (toList_nil s).1 h; simp [isa_Name2.j0, h0]
  · rw [if_neg h]
    have h0 : 0 < s.size := by
      have : s.size ≠ 0 := fun h1 => h ((toList_nil s).2 h1); omega
    by_cases h12 : (s.size : Int) > 12
    · rw [if_pos h12]; have : ¬ s.size ≤ 12 := by omega
      simp [isa_Name2.j0, this]
    · rw [if_neg h12, if_pos (by omega), letter_eq]; simp only [Option.bind_some]; have h12' : s.size ≤ 12 := by omega
      cases hl : letter (bt s 0) with
      | false => simp [isa_Name2.j0]
      | true =>
        simp only [isa_Name2.j0, Bool.not_true, Bool.false_eq_true, if_false]; rw [isa_name_loop s h12' s.size m 0 (by omega) (by omega) (by omega)]; simp [h0, h12']
theorem ref_name_loop (s : ByteArray) (hs : s.size ≤ 12) : ∀ (d : Nat) (k : Nat) (i : Int), 0 ≤ i → i + d = s.size → 2 * d + 1 ≤ k → r3_Name.l0 k s i = some (nameFrom s i d)
  | 0, k, i, h0, h1, hk => by
    obtain ⟨m, rfl⟩ : ∃ m, k = m + 1 := ⟨k - 1, by omega⟩
    simp only [r3_Name.l0, nameFrom]; rw [if_neg (by omega)]
  | d + 1, k, i, h0, h1, hk => by
    obtain ⟨m, rfl⟩ : ∃ m, k = m + 2 := ⟨k - 2, by omega⟩
    simp only [r3_Name.l0, nameFrom]; rw [if_pos (by omega), if_pos h0]; have hw : wrap64 (i + 1) = i + 1 := wrapI h0 (by omega); have ih := ref_name_loop s hs d m (i + 1) (by omega) (by omega) (by omega); generalize bt s i = c
    by_cases h1 : c ≥ 97 <;> by_cases h2 : c ≤ 122 <;> by_cases h3 : c = 95 <;> by_cases h4 : c ≥ 48 <;> by_cases h5 : c ≤ 57 <;>
      first
      | omega
      | (simp [r3_Name.j2, h1, h2, h3, h4, h5, hw, ih, letter, digit]; done)
theorem ref_name {k : Nat} (hk : 40 ≤ k) (s : ByteArray) : r3_Name.f k s = some (nameOk s) := by
  obtain ⟨m, rfl⟩ : ∃ m, k = m + 1 := ⟨k - 1, by omega⟩
  unfold r3_Name.f nameOk
  by_cases h : (s.size : Int) = 0
  · rw [if_pos h]; have h0 : s.size = 0 := by omega
    simp [r3_Name.j0, h0]
  · rw [if_neg h]; have h0 : 0 < s.size := by omega
    by_cases h12 : (s.size : Int) > 12
    · rw [if_pos h12]; have : ¬ s.size ≤ 12 := by omega
      simp [r3_Name.j0, this]
    · rw [if_neg h12, if_pos (by omega)]; have h12' : s.size ≤ 12 := by omega
      have hl := ref_name_loop s h12' s.size m 0 (by omega) (by omega) (by omega); have hd : digit (bt s 0) = true → letter (bt s 0) = false := by simp [digit, letter]; omega
      have hn : letter (bt s 0) = false → digit (bt s 0) = false → nameFrom s 0 s.size = false := by
        intro h1 h2; obtain ⟨d, hd'⟩ : ∃ d, s.size = d + 1 := ⟨s.size - 1, by omega⟩
        rw [hd', nameFrom, h1, h2]; rfl
      by_cases h1 : bt s 0 ≥ 48
      · rw [if_pos h1]
        by_cases h2 : bt s 0 ≤ 57
        · have hdd : digit (bt s 0) = true := by simp [digit]; omega
          simp [r3_Name.j0, h2, hd hdd]
        · have hdd : digit (bt s 0) = false := by simp [digit]; omega
          simp only [r3_Name.j0, decide_eq_false h2, Bool.false_eq_true, if_false, hl, h0, h12', decide_true, Bool.true_and]
          cases hll : letter (bt s 0) with
          | true => rfl
          | false => rw [hn hll hdd]; rfl
      · rw [if_neg h1]; have hdd : digit (bt s 0) = false := by simp [digit]; omega
        simp only [r3_Name.j0, Bool.false_eq_true, if_false, hl, h0, h12', decide_true, Bool.true_and]
        cases hll : letter (bt s 0) with
        | true => rfl
        | false => rw [hn hll hdd]; rfl
def immOk (f imm : Int) (s : ByteArray) : Bool :=
  if target f = true then (if s.toList = [] then decide (0 ≤ imm ∧ imm ≤ 1023) else (imm == 0 && nameOk s))
  else if s.toList = [] then (if f = 3 ∨ f = 5 then fit14 imm else if f = 4 then fit18 imm else imm == 0)
  else (if f = 4 then (nameOk s && fit18 imm) else false)
def insOk (op d a b imm : Int) (s : ByteArray) : Bool :=
  decide (0 ≤ op ∧ op ≤ 33) && (regOk (hasD (formOf op)) d && (regOk (hasA (formOf op)) a && (regOk (hasB (formOf op)) b && immOk (formOf op) imm s)))
theorem isa_is (op : Int) : isa_Is.f op = some (decide (0 ≤ op ∧ op ≤ 33)) := by
  unfold isa_Is.f
  by_cases h : op ≥ 0
  · rw [if_pos h]; congr 1; by_cases h2 : op ≤ 33 <;> simp [h2] <;> omega
  · rw [if_neg h]; congr 1; symm; rw [decide_eq_false_iff_not]; omega
theorem ref_valid (op : Int) : r3_Valid.f op = some (decide (0 ≤ op ∧ op ≤ 33)) := by
  unfold r3_Valid.f r0_Between.f
  by_cases h : op ≥ 0
  · rw [if_pos h]; simp only [Option.bind_some]; congr 1; by_cases h2 : op ≤ 33 <;> simp [h2] <;> omega
  · rw [if_neg h]; simp only [Option.bind_some]; congr 1; symm; rw [decide_eq_false_iff_not]; omega
theorem form_cases (f : Int) (h0 : 0 ≤ f) (h1 : f ≤ 9) : f = 0 ∨ f = 1 ∨ f = 2 ∨ f = 3 ∨ f = 4 ∨ f = 5 ∨ f = 6 ∨ f = 7 ∨ f = 8 ∨ f = 9 := by omega
end
section
attribute [local go_sem] max2_int min2_int max_two min_two max_three min_three max_four min_four
def IsS24 (w0 W : World) (g : Nat) (f0 : Int) (f1 : Int) (f2 : Int) (f3 : Int) (f4 : Int) (f5 : ByteArray) : Prop := W.heap[g]? = some (.cells #[.int .i64 f0, .int .i64 f1, .int .i64 f2, .int .i64 f3, .int .i64 f4, .string f5] 24 (0, 0)) ∧ w0.heap.size ≤ g
theorem IsS24.grown {w0 W : World} {g : Nat} {f0 : Int} {f1 : Int} {f2 : Int} {f3 : Int} {f4 : Int} {f5 : ByteArray} {W1 : World} {row : Option Nat} (h : IsS24 w0 W g f0 f1 f2 f3 f4 f5) (hw : W.grownBy W1 row) (hne : some g ≠ row) : IsS24 w0 W1 g f0 f1 f2 f3 f4 f5 := by
 obtain ⟨hb, hg⟩ := h; exact ⟨blk_grown hb hw hne, hg⟩
theorem IsS24.kept {w0 W : World} {g : Nat} {f0 : Int} {f1 : Int} {f2 : Int} {f3 : Int} {f4 : Int} {f5 : ByteArray} {W1 : World} {S : Nat → Prop} (h : IsS24 w0 W g f0 f1 f2 f3 f4 f5) (hk : Kept W W1 S) (hne : ¬ S g) : IsS24 w0 W1 g f0 f1 f2 f3 f4 f5 := by
 obtain ⟨hb, hg⟩ := h; exact ⟨blk_kept hb hk hne, hg⟩
theorem IsS24.below {w0 W : World} {g : Nat} {f0 : Int} {f1 : Int} {f2 : Int} {f3 : Int} {f4 : Int} {f5 : ByteArray} {W1 : World} (h : IsS24 w0 W g f0 f1 f2 f3 f4 f5) (hw : Below W.heap.size W W1) : IsS24 w0 W1 g f0 f1 f2 f3 f4 f5 := h.grown (grown_of_below hw none) (by simp)
theorem IsS24.alloc {w0 W : World} {g : Nat} {f0 : Int} {f1 : Int} {f2 : Int} {f3 : Int} {f4 : Int} {f5 : ByteArray} (h : IsS24 w0 W g f0 f1 f2 f3 f4 f5) (o : Obj) : IsS24 w0 (W.alloc o) g f0 f1 f2 f3 f4 f5 := h.below (bA_ (Below.refl _ _) o)
theorem IsS24.drewN {w0 W : World} {g : Nat} {f0 : Int} {f1 : Int} {f2 : Int} {f3 : Int} {f4 : Int} {f5 : ByteArray} (h : IsS24 w0 W g f0 f1 f2 f3 f4 f5) (m : Nat) : IsS24 w0 (W.drewN m) g f0 f1 f2 f3 f4 f5 := h
theorem IsS24.drew {w0 W : World} {g : Nat} {f0 : Int} {f1 : Int} {f2 : Int} {f3 : Int} {f4 : Int} {f5 : ByteArray} (h : IsS24 w0 W g f0 f1 f2 f3 f4 f5) : IsS24 w0 W.drew g f0 f1 f2 f3 f4 f5 := h
theorem IsS24.at_ {w0 W : World} {g : Nat} {f0 : Int} {f1 : Int} {f2 : Int} {f3 : Int} {f4 : Int} {f5 : ByteArray} {w' : World} {m : Nat} (hq : W.drewN m = w') (h : IsS24 w0 W g f0 f1 f2 f3 f4 f5) : IsS24 w0 w' g f0 f1 f2 f3 f4 f5 := by subst hq; exact IsS24.drewN h m
theorem IsS24.apart {w0 W : World} {g : Nat} {f0 : Int} {f1 : Int} {f2 : Int} {f3 : Int} {f4 : Int} {f5 : ByteArray} {α : Type} {d : Kd α} {e : Nat} {base : Nat} {ok : Nat → Prop} {v : Value} {xs : List α} (h : IsS24 w0 W g f0 f1 f2 f3 f4 f5) (ho : d.R e W base ok v xs) (ht : ∀ q, q ∈ e :: d.E → q ≠ 24) : d.R e W base (fun k => ok k ∧ k ≠ g) v xs := by
 obtain ⟨hb, hg⟩ := h; exact Kd.R_types ho hb ht
theorem IsS24.own_ne {w0 W : World} {g : Nat} {f0 : Int} {f1 : Int} {f2 : Int} {f3 : Int} {f4 : Int} {f5 : ByteArray} {α : Type} {d : Kd α} {e : Nat} {base : Nat} {ok : Nat → Prop} {v : Value} {xs : List α} (h : IsS24 w0 W g f0 f1 f2 f3 f4 f5) (ho : d.R e W base ok v xs) (ht : e ≠ 24) : some g ≠ v.ownBlock := by
 obtain ⟨hb, hg⟩ := h; exact Kd.R_ne ho hb ht
theorem IsS24.lt {w0 W : World} {g : Nat} {f0 : Int} {f1 : Int} {f2 : Int} {f3 : Int} {f4 : Int} {f5 : ByteArray} (h : IsS24 w0 W g f0 f1 f2 f3 f4 f5) : g < W.heap.size := by
 obtain ⟨hb, hg⟩ := h; exact blk_lt hb
theorem IsS24.ge {w0 W : World} {g : Nat} {f0 : Int} {f1 : Int} {f2 : Int} {f3 : Int} {f4 : Int} {f5 : ByteArray} (h : IsS24 w0 W g f0 f1 f2 f3 f4 f5) : w0.heap.size ≤ g := by
 obtain ⟨hb, hg⟩ := h; exact hg
theorem cellS24_0 {W : World} {g : Nat} {f0 : Int} {f1 : Int} {f2 : Int} {f3 : Int} {f4 : Int} {f5 : ByteArray} (h : W.heap[g]? = some (.cells #[.int .i64 f0, .int .i64 f1, .int .i64 f2, .int .i64 f3, .int .i64 f4, .string f5] 24 (0, 0))) : W.cell? ⟨g, 0, none⟩ = some (.int .i64 f0) := (bC_ h 0).trans rfl
theorem IsS24.set_0 {w0 W : World} {g : Nat} {f0 : Int} {f1 : Int} {f2 : Int} {f3 : Int} {f4 : Int} {f5 : ByteArray} (h : IsS24 w0 W g f0 f1 f2 f3 f4 f5) (x : Int) : IsS24 w0 (W.setCell ⟨g, 0, none⟩ (.int .i64 x)) g x f1 f2 f3 f4 f5 := by
 obtain ⟨hb, hg⟩ := h; exact ⟨by simpa using blk_set hb 0 (.int .i64 x), hg⟩
theorem cellS24_1 {W : World} {g : Nat} {f0 : Int} {f1 : Int} {f2 : Int} {f3 : Int} {f4 : Int} {f5 : ByteArray} (h : W.heap[g]? = some (.cells #[.int .i64 f0, .int .i64 f1, .int .i64 f2, .int .i64 f3, .int .i64 f4, .string f5] 24 (0, 0))) : W.cell? ⟨g, 1, none⟩ = some (.int .i64 f1) := (bC_ h 1).trans rfl
theorem IsS24.set_1 {w0 W : World} {g : Nat} {f0 : Int} {f1 : Int} {f2 : Int} {f3 : Int} {f4 : Int} {f5 : ByteArray} (h : IsS24 w0 W g f0 f1 f2 f3 f4 f5) (x : Int) : IsS24 w0 (W.setCell ⟨g, 1, none⟩ (.int .i64 x)) g f0 x f2 f3 f4 f5 := by
 obtain ⟨hb, hg⟩ := h; exact ⟨by simpa using blk_set hb 1 (.int .i64 x), hg⟩
theorem cellS24_2 {W : World} {g : Nat} {f0 : Int} {f1 : Int} {f2 : Int} {f3 : Int} {f4 : Int} {f5 : ByteArray} (h : W.heap[g]? = some (.cells #[.int .i64 f0, .int .i64 f1, .int .i64 f2, .int .i64 f3, .int .i64 f4, .string f5] 24 (0, 0))) : W.cell? ⟨g, 2, none⟩ = some (.int .i64 f2) := (bC_ h 2).trans rfl
theorem IsS24.set_2 {w0 W : World} {g : Nat} {f0 : Int} {f1 : Int} {f2 : Int} {f3 : Int} {f4 : Int} {f5 : ByteArray} (h : IsS24 w0 W g f0 f1 f2 f3 f4 f5) (x : Int) : IsS24 w0 (W.setCell ⟨g, 2, none⟩ (.int .i64 x)) g f0 f1 x f3 f4 f5 := by
 obtain ⟨hb, hg⟩ := h; exact ⟨by simpa using blk_set hb 2 (.int .i64 x), hg⟩
theorem cellS24_3 {W : World} {g : Nat} {f0 : Int} {f1 : Int} {f2 : Int} {f3 : Int} {f4 : Int} {f5 : ByteArray} (h : W.heap[g]? = some (.cells #[.int .i64 f0, .int .i64 f1, .int .i64 f2, .int .i64 f3, .int .i64 f4, .string f5] 24 (0, 0))) : W.cell? ⟨g, 3, none⟩ = some (.int .i64 f3) := (bC_ h 3).trans rfl
theorem IsS24.set_3 {w0 W : World} {g : Nat} {f0 : Int} {f1 : Int} {f2 : Int} {f3 : Int} {f4 : Int} {f5 : ByteArray} (h : IsS24 w0 W g f0 f1 f2 f3 f4 f5) (x : Int) : IsS24 w0 (W.setCell ⟨g, 3, none⟩ (.int .i64 x)) g f0 f1 f2 x f4 f5 := by
 obtain ⟨hb, hg⟩ := h; exact ⟨by simpa using blk_set hb 3 (.int .i64 x), hg⟩
theorem cellS24_4 {W : World} {g : Nat} {f0 : Int} {f1 : Int} {f2 : Int} {f3 : Int} {f4 : Int} {f5 : ByteArray} (h : W.heap[g]? = some (.cells #[.int .i64 f0, .int .i64 f1, .int .i64 f2, .int .i64 f3, .int .i64 f4, .string f5] 24 (0, 0))) : W.cell? ⟨g, 4, none⟩ = some (.int .i64 f4) := (bC_ h 4).trans rfl
theorem IsS24.set_4 {w0 W : World} {g : Nat} {f0 : Int} {f1 : Int} {f2 : Int} {f3 : Int} {f4 : Int} {f5 : ByteArray} (h : IsS24 w0 W g f0 f1 f2 f3 f4 f5) (x : Int) : IsS24 w0 (W.setCell ⟨g, 4, none⟩ (.int .i64 x)) g f0 f1 f2 f3 x f5 := by
 obtain ⟨hb, hg⟩ := h; exact ⟨by simpa using blk_set hb 4 (.int .i64 x), hg⟩
theorem cellS24_5 {W : World} {g : Nat} {f0 : Int} {f1 : Int} {f2 : Int} {f3 : Int} {f4 : Int} {f5 : ByteArray} (h : W.heap[g]? = some (.cells #[.int .i64 f0, .int .i64 f1, .int .i64 f2, .int .i64 f3, .int .i64 f4, .string f5] 24 (0, 0))) : W.cell? ⟨g, 5, none⟩ = some (.string f5) := (bC_ h 5).trans rfl
theorem IsS24.set_5 {w0 W : World} {g : Nat} {f0 : Int} {f1 : Int} {f2 : Int} {f3 : Int} {f4 : Int} {f5 : ByteArray} (h : IsS24 w0 W g f0 f1 f2 f3 f4 f5) (x : ByteArray) : IsS24 w0 (W.setCell ⟨g, 5, none⟩ (.string x)) g f0 f1 f2 f3 f4 x := by
 obtain ⟨hb, hg⟩ := h; exact ⟨by simpa using blk_set hb 5 (.string x), hg⟩
theorem IsS24.new (w0 W : World) (f0 : Int) (f1 : Int) (f2 : Int) (f3 : Int) (f4 : Int) (f5 : ByteArray) (hB : Below w0.heap.size w0 W) : IsS24 w0 (W.alloc (.cells #[.int .i64 f0, .int .i64 f1, .int .i64 f2, .int .i64 f3, .int .i64 f4, .string f5] 24)) W.heap.size f0 f1 f2 f3 f4 f5 := ⟨by simpa using heap_alloc_new W _, hB.size⟩
def dag_reads_1.f (k : Nat) (a0 : Int) (s1_0 : Int) (s1_1 : Int) (s1_2 : Int) (s1_3 : Int) (s1_4 : Int) (s1_5 : ByteArray) : Option (Bool × Int × Int × Int × Int × Int × ByteArray) := (dag_writes.f k s1_0 s1_1 s1_2 s1_3 s1_4 s1_5 a0).bind fun t236 => (some (t236, s1_0, s1_1, s1_2, s1_3, s1_4, s1_5))
theorem dag_reads_1.calls (k : Nat) (a0 : Int) (g : Nat) (s1_0 : Int) (s1_1 : Int) (s1_2 : Int) (s1_3 : Int) (s1_4 : Int) (s1_5 : ByteArray) (r1 : Bool) (r2 : Int) (r3 : Int) (r4 : Int) (r5 : Int) (r6 : Int) (r7 : ByteArray) (w0 w : World) (hI : IsS24 w0 w g s1_0 s1_1 s1_2 s1_3 s1_4 s1_5) (hB : Below w0.heap.size w0 w) (h : dag_reads_1.f k a0 s1_0 s1_1 s1_2 s1_3 s1_4 s1_5 = some (r1, r2, r3, r4, r5, r6, r7)) :
    Calls Tryz.prog 111 #[.int .i64 a0, .pointer (some ⟨g, 0, none⟩)] w fun e w' => e = .returned (.bool r1) ∧ IsS24 w0 w' g r2 r3 r4 r5 r6 r7 ∧ Below w0.heap.size w0 w' ∧ KeepBut w w' g none := by
 have hu24 := Tryz.underlying24; have HI1 := aM_ hI; have HK := aM_ (KeepBut.refl w g none); have HL := aM_ hB.size; clear hI; have HW0 := aM_ hB.size; have HB := aM_ hB; clear hB; have H : ((dag_writes.f k s1_0 s1_1 s1_2 s1_3 s1_4 s1_5 a0).bind fun t236 => (some (t236, s1_0, s1_1, s1_2, s1_3, s1_4, s1_5))) = some (r1, r2, r3, r4, r5, r6, r7) := h; clear h; obtain ⟨t236, A3, H⟩ := oB_ H; simp only [Option.some.injEq, Prod.mk.injEq] at H; obtain ⟨rfl, rfl, rfl, rfl, rfl, rfl, rfl⟩ := H; obtain ⟨HGz4, hgz4⟩ := HI1.out; have hcz4_0 := cellS24_0 HGz4; have hcz4_1 := cellS24_1 HGz4; have hcz4_2 := cellS24_2 HGz4; have hcz4_3 := cellS24_3 HGz4; have hcz4_4 := cellS24_4 HGz4; have hcz4_5 := cellS24_5 HGz4; have hfz4_0 := bZ_ HGz4 0; have hfz4_1 := bZ_ HGz4 1; have hfz4_2 := bZ_ HGz4 2; have hfz4_3 := bZ_ HGz4 3; have hfz4_4 := bZ_ HGz4 4; have hfz4_5 := bZ_ HGz4 5; clear HGz4 hgz4; go_enter Tryz.func111, Tryz.ntmps111
 go_wp2_with (first | ((with_reducible refine gC_ (f := 102) rfl ?_); refine gL_ (some 6) Tryz.func102 #[.agg #[.int .i64 s1_0, .int .i64 s1_1, .int .i64 s1_2, .int .i64 s1_3, .int .i64 s1_4, .string s1_5], .int .i64 a0] rfl ?_; (with_reducible refine (dag_writes.calls k s1_0 s1_1 s1_2 s1_3 s1_4 s1_5 a0 t236 _ A3.out).mono ?_); rintro e w5 ⟨rfl, hb⟩; refine ⟨_, rfl, ?_⟩; replace HK := aM_ (KeepBut.trans (by repeat (first | (with_reducible first | exact HK.out | apply KeepBut.set_ | apply keep_drewN | apply keep_drew | apply keep_alloc) | exact HK.out)) (KeepBut.of_below hb g none) (.inl rfl)); replace HB := aM_ (bT_ (by repeat (first | (with_reducible first | exact HB.out | apply bA_ | apply bN_ | apply b1_ | refine bS_ ?_ (IsS24.ge HI1.out)) | exact HB.out)) hb); replace HI1 := aM_ (IsS24.below (by repeat (first | (with_reducible first | exact HI1.out | apply IsS24.alloc | apply IsS24.drewN | apply IsS24.drew | apply IsS24.set_0 | apply IsS24.set_1 | apply IsS24.set_2 | apply IsS24.set_3 | apply IsS24.set_4 | apply IsS24.set_5) | exact HI1.out)) hb)))
 go_ret; exact ⟨eR_, by repeat (first | (with_reducible first | exact HI1.out | apply IsS24.alloc | apply IsS24.drewN | apply IsS24.drew | apply IsS24.set_0 | apply IsS24.set_1 | apply IsS24.set_2 | apply IsS24.set_3 | apply IsS24.set_4 | apply IsS24.set_5) | exact HI1.out), by repeat (first | (with_reducible first | exact HB.out | apply bA_ | apply bN_ | apply b1_ | refine bS_ ?_ (IsS24.ge HI1.out)) | exact HB.out), by repeat (first | (with_reducible first | exact HK.out | apply KeepBut.set_ | apply keep_drewN | apply keep_drew | apply keep_alloc) | exact HK.out)⟩
def sI_111.l0 : Nat → List Int → Int → Int → Int → Int → Int → Int → Int → ByteArray → Option (Int × Int × Int × Int × Int × Int × ByteArray)
  | 0, _, _, _, _, _, _, _, _, _ => none
  | k + 1, x0, x7, x8, x2000, x2001, x2002, x2003, x2004, x2005 => if x8 < x7 then (if 0 ≤ x8 then (if x8 < (x0.length : Int) then ((dag_reads_1.f k (rd x0 x8) x2000 x2001 x2002 x2003 x2004 x2005).bind fun bt238 => (if bt238.1 = true then (some (x8, bt238.2.1, bt238.2.2.1, bt238.2.2.2.1, bt238.2.2.2.2.1, bt238.2.2.2.2.2.1, bt238.2.2.2.2.2.2)) else (sI_111.l0 k x0 x7 (wrap64 (x8 + 1)) bt238.2.1 bt238.2.2.1 bt238.2.2.2.1 bt238.2.2.2.2.1 bt238.2.2.2.2.2.1 bt238.2.2.2.2.2.2))) else (none)) else (none)) else (some ((-1), x2000, x2001, x2002, x2003, x2004, x2005))
def sI_111.f (k : Nat) (l0 : List Int) (s1_0 : Int) (s1_1 : Int) (s1_2 : Int) (s1_3 : Int) (s1_4 : Int) (s1_5 : ByteArray) : Option (Int × Int × Int × Int × Int × Int × ByteArray) := sI_111.l0 k l0 (l0.length : Int) 0 s1_0 s1_1 s1_2 s1_3 s1_4 s1_5
theorem sI_111.calls (k : Nat) (A0 : Option Addr) (c0 : Nat) (l0 : List Int) (g : Nat) (s1_0 : Int) (s1_1 : Int) (s1_2 : Int) (s1_3 : Int) (s1_4 : Int) (s1_5 : ByteArray) (r1 : Int) (r2 : Int) (r3 : Int) (r4 : Int) (r5 : Int) (r6 : Int) (r7 : ByteArray) (w0 w : World) (hI : IsS24 w0 w g s1_0 s1_1 s1_2 s1_3 s1_4 s1_5) (hB : Below w0.heap.size w0 w) (hr0 : Kd.C (Kd.int .i64) w A0 l0.length l0) (hc0 : l0.length ≤ c0) (hf0 : ∀ ad, A0 = some ad → 0 < l0.length → ad.block ≠ g) (h : sI_111.f k l0 s1_0 s1_1 s1_2 s1_3 s1_4 s1_5 = some (r1, r2, r3, r4, r5, r6, r7)) :
    Calls Tryz.prog 113 #[.slice A0 l0.length c0, .func (.func 111) #[] #[.pointer (some ⟨g, 0, none⟩)]] w fun e w' => e = .returned (.int .i64 r1) ∧ IsS24 w0 w' g r2 r3 r4 r5 r6 r7 ∧ Below w0.heap.size w0 w' ∧ KeepBut w w' g none := by
 have HR0 := aM_ hr0; have HC0 := aM_ hc0; clear hr0 hc0; have HI1 := aM_ hI; have HK := aM_ (KeepBut.refl w g none); have HL := aM_ hB.size; clear hI; have HW0 := aM_ hB.size; have HB := aM_ hB; clear hB; have H : (sI_111.l0 k l0 (l0.length : Int) 0 s1_0 s1_1 s1_2 s1_3 s1_4 s1_5) = some (r1, r2, r3, r4, r5, r6, r7) := h; clear h; replace H := aM_ H; go_enter Tryz.func113, Tryz.ntmps113; go_wp2
 go_loopg [8] k (fun kq v8 w' => ∃ (x8_1 : Int) (x2000_1 : Int) (x2001_1 : Int) (x2002_1 : Int) (x2003_1 : Int) (x2004_1 : Int) (x2005_1 : ByteArray), v8 = .int .i64 x8_1 ∧ As_ (sI_111.l0 kq l0 (l0.length : Int) x8_1 x2000_1 x2001_1 x2002_1 x2003_1 x2004_1 x2005_1 = some (r1, r2, r3, r4, r5, r6, r7)) ∧ As_ (kq ≤ k) ∧ As_ (IsS24 w0 w' g x2000_1 x2001_1 x2002_1 x2003_1 x2004_1 x2005_1) ∧ As_ (KeepBut w w' g none) ∧ As_ (Below w0.heap.size w0 w'))
 case atStart => exact ⟨(0), (s1_0), (s1_1), (s1_2), (s1_3), (s1_4), (s1_5), eQ_, H, ⟨Nat.le_refl _⟩, ⟨by repeat (first | (with_reducible first | exact HI1.out | apply IsS24.alloc | apply IsS24.drewN | apply IsS24.drew | apply IsS24.set_0 | apply IsS24.set_1 | apply IsS24.set_2 | apply IsS24.set_3 | apply IsS24.set_4 | apply IsS24.set_5) | exact HI1.out)⟩, ⟨by repeat (first | (with_reducible first | exact HK.out | apply KeepBut.set_ | apply keep_drewN | apply keep_drew | apply keep_alloc) | exact HK.out)⟩, ⟨by repeat (first | (with_reducible first | exact HB.out | apply bA_ | apply bN_ | apply b1_ | refine bS_ ?_ (IsS24.ge HI1.out)) | exact HB.out)⟩⟩
 case round =>
  clear H; obtain ⟨x8_1, x2000_1, x2001_1, x2002_1, x2003_1, x2004_1, x2005_1, rfl, HA, HK1, HI1, HK, HB⟩ := hrel
  cases gk with
  | zero => exact absurd HA.out (by simp [sI_111.l0])
  | succ k1 =>
   have H := HA.out; clear HA; simp only [sI_111.l0] at H
   by_cases c3 : x8_1 < (l0.length : Int)
   ·rw [if_pos c3] at H; have c3b0 := dE_ c3; clear c3
    by_cases c4 : 0 ≤ x8_1
    ·rw [if_pos c4] at H; have c4b0 := dE_ c4; clear c4
     by_cases c5 : x8_1 < (l0.length : Int)
     ·rw [if_pos c5] at H; have c5b0 := dE_ c5; clear c5; replace H := oB_ H; obtain ⟨⟨t238, t239, t240, t241, t242, t243, t244⟩, A6, H⟩ := H; replace H : (if t238 = true then (some (x8_1, t239, t240, t241, t242, t243, t244)) else (sI_111.l0 k1 l0 (l0.length : Int) (wrap64 (x8_1 + 1)) t239 t240 t241 t242 t243 t244)) = some (r1, r2, r3, r4, r5, r6, r7) := H
      by_cases c7 : t238 = true
      ·subst c7; have H1 : (some (x8_1, t239, t240, t241, t242, t243, t244)) = some (r1, r2, r3, r4, r5, r6, r7) := by rw [if_pos rfl] at H; exact H
       clear H; have H := H1; clear H1; simp only [Option.some.injEq, Prod.mk.injEq] at H; obtain ⟨rfl, rfl, rfl, rfl, rfl, rfl, rfl⟩ := H; have p237 : 0 ≤ (x8_1 : Int) := oD_; have q237 : x8_1 < (l0.length : Int) := oD_; obtain ⟨ad237, e237, hx237_0⟩ := Kd.at_int HR0.out x8_1 p237 q237
       cases e237
       replace hx237_0 := keep_cell HK.out hx237_0 (by first | (rw [add_block]; exact hf0 _ rfl (by omega)) | exact hf0 _ rfl (by omega) | exact hf0 ad237 rfl (by omega)); replace p237 := eq_true p237; replace q237 := eq_true q237
       go_wp2_with (first | (go_at_call 111; (with_reducible refine (dag_reads_1.calls k1 (rd l0 x8_1) g x2000_1 x2001_1 x2002_1 x2003_1 x2004_1 x2005_1 true t239 t240 t241 t242 t243 t244 w0 _ ?side1 ?side2 A6.out).mono ?_); (case side1 => repeat (first | (with_reducible first | exact HI1.out | apply IsS24.alloc | apply IsS24.drewN | apply IsS24.drew | apply IsS24.set_0 | apply IsS24.set_1 | apply IsS24.set_2 | apply IsS24.set_3 | apply IsS24.set_4 | apply IsS24.set_5) | exact HI1.out)); (case side2 => repeat (first | (with_reducible first | exact HB.out | apply bA_ | apply bN_ | apply b1_ | refine bS_ ?_ (IsS24.ge HI1.out)) | exact HB.out)); rintro e w8 ⟨rfl, hi, hb, hk⟩; replace HK := aM_ (KeepBut.trans (by repeat (first | (with_reducible first | exact HK.out | apply KeepBut.set_ | apply keep_drewN | apply keep_drew | apply keep_alloc) | exact HK.out)) hk (.inl rfl)); replace HB := aM_ (hb); replace HI1 := aM_ (hi)))
       go_ret; exact ⟨eR_, by repeat (first | (with_reducible first | exact HI1.out | apply IsS24.alloc | apply IsS24.drewN | apply IsS24.drew | apply IsS24.set_0 | apply IsS24.set_1 | apply IsS24.set_2 | apply IsS24.set_3 | apply IsS24.set_4 | apply IsS24.set_5) | exact HI1.out), by repeat (first | (with_reducible first | exact HB.out | apply bA_ | apply bN_ | apply b1_ | refine bS_ ?_ (IsS24.ge HI1.out)) | exact HB.out), by repeat (first | (with_reducible first | exact HK.out | apply KeepBut.set_ | apply keep_drewN | apply keep_drew | apply keep_alloc) | exact HK.out)⟩
      replace c7 := eF_ c7; subst c7; have H1 : (sI_111.l0 k1 l0 (l0.length : Int) (wrap64 (x8_1 + 1)) t239 t240 t241 t242 t243 t244) = some (r1, r2, r3, r4, r5, r6, r7) := by rw [if_neg (show ¬ (false = true) by decide)] at H; exact H
      clear H; have H := H1; clear H1; replace H := aM_ H; have p237 : 0 ≤ (x8_1 : Int) := oD_; have q237 : x8_1 < (l0.length : Int) := oD_; obtain ⟨ad237, e237, hx237_0⟩ := Kd.at_int HR0.out x8_1 p237 q237
      cases e237
      replace hx237_0 := keep_cell HK.out hx237_0 (by first | (rw [add_block]; exact hf0 _ rfl (by omega)) | exact hf0 _ rfl (by omega) | exact hf0 ad237 rfl (by omega)); replace p237 := eq_true p237; replace q237 := eq_true q237
      go_wp2_with (first | (go_at_call 111; (with_reducible refine (dag_reads_1.calls k1 (rd l0 x8_1) g x2000_1 x2001_1 x2002_1 x2003_1 x2004_1 x2005_1 false t239 t240 t241 t242 t243 t244 w0 _ ?side1 ?side2 A6.out).mono ?_); (case side1 => repeat (first | (with_reducible first | exact HI1.out | apply IsS24.alloc | apply IsS24.drewN | apply IsS24.drew | apply IsS24.set_0 | apply IsS24.set_1 | apply IsS24.set_2 | apply IsS24.set_3 | apply IsS24.set_4 | apply IsS24.set_5) | exact HI1.out)); (case side2 => repeat (first | (with_reducible first | exact HB.out | apply bA_ | apply bN_ | apply b1_ | refine bS_ ?_ (IsS24.ge HI1.out)) | exact HB.out)); rintro e w9 ⟨rfl, hi, hb, hk⟩; replace HK := aM_ (KeepBut.trans (by repeat (first | (with_reducible first | exact HK.out | apply KeepBut.set_ | apply keep_drewN | apply keep_drew | apply keep_alloc) | exact HK.out)) hk (.inl rfl)); replace HB := aM_ (hb); replace HI1 := aM_ (hi)))
      go_roundg k1
      case measure => have := HK1.out; omega
      case rel => exact ⟨(wrap64 (x8_1 + 1)), (t239), (t240), (t241), (t242), (t243), (t244), eQ_, H, ⟨by have := HK1.out; omega⟩, ⟨by repeat (first | (with_reducible first | exact HI1.out | apply IsS24.alloc | apply IsS24.drewN | apply IsS24.drew | apply IsS24.set_0 | apply IsS24.set_1 | apply IsS24.set_2 | apply IsS24.set_3 | apply IsS24.set_4 | apply IsS24.set_5) | exact HI1.out)⟩, ⟨by repeat (first | (with_reducible first | exact HK.out | apply KeepBut.set_ | apply keep_drewN | apply keep_drew | apply keep_alloc) | exact HK.out)⟩, ⟨by repeat (first | (with_reducible first | exact HB.out | apply bA_ | apply bN_ | apply b1_ | refine bS_ ?_ (IsS24.ge HI1.out)) | exact HB.out)⟩⟩
     rw [if_neg c5] at H; exact absurd H (by simp)
    rw [if_neg c4] at H; exact absurd H (by simp)
   rw [if_neg c3] at H; have c3b0 := dF_ c3; clear c3; simp only [Option.some.injEq, Prod.mk.injEq] at H; obtain ⟨rfl, rfl, rfl, rfl, rfl, rfl, rfl⟩ := H; go_wp2; go_ret; exact ⟨eR_, by repeat (first | (with_reducible first | exact HI1.out | apply IsS24.alloc | apply IsS24.drewN | apply IsS24.drew | apply IsS24.set_0 | apply IsS24.set_1 | apply IsS24.set_2 | apply IsS24.set_3 | apply IsS24.set_4 | apply IsS24.set_5) | exact HI1.out), by repeat (first | (with_reducible first | exact HB.out | apply bA_ | apply bN_ | apply b1_ | refine bS_ ?_ (IsS24.ge HI1.out)) | exact HB.out), by repeat (first | (with_reducible first | exact HK.out | apply KeepBut.set_ | apply keep_drewN | apply keep_drew | apply keep_alloc) | exact HK.out)⟩
def sC_111.f (k : Nat) (l0 : List Int) (s1_0 : Int) (s1_1 : Int) (s1_2 : Int) (s1_3 : Int) (s1_4 : Int) (s1_5 : ByteArray) : Option (Bool × Int × Int × Int × Int × Int × ByteArray) := (sI_111.f k l0 s1_0 s1_1 s1_2 s1_3 s1_4 s1_5).bind fun bt245 => (some (decide (bt245.1 ≥ 0), bt245.2.1, bt245.2.2.1, bt245.2.2.2.1, bt245.2.2.2.2.1, bt245.2.2.2.2.2.1, bt245.2.2.2.2.2.2))
theorem sC_111.calls (k : Nat) (A0 : Option Addr) (c0 : Nat) (l0 : List Int) (g : Nat) (s1_0 : Int) (s1_1 : Int) (s1_2 : Int) (s1_3 : Int) (s1_4 : Int) (s1_5 : ByteArray) (r1 : Bool) (r2 : Int) (r3 : Int) (r4 : Int) (r5 : Int) (r6 : Int) (r7 : ByteArray) (w0 w : World) (hI : IsS24 w0 w g s1_0 s1_1 s1_2 s1_3 s1_4 s1_5) (hB : Below w0.heap.size w0 w) (hr0 : Kd.C (Kd.int .i64) w A0 l0.length l0) (hc0 : l0.length ≤ c0) (hf0 : ∀ ad, A0 = some ad → 0 < l0.length → ad.block ≠ g) (h : sC_111.f k l0 s1_0 s1_1 s1_2 s1_3 s1_4 s1_5 = some (r1, r2, r3, r4, r5, r6, r7)) :
    Calls Tryz.prog 109 #[.slice A0 l0.length c0, .func (.func 111) #[] #[.pointer (some ⟨g, 0, none⟩)]] w fun e w' => e = .returned (.bool r1) ∧ IsS24 w0 w' g r2 r3 r4 r5 r6 r7 ∧ Below w0.heap.size w0 w' ∧ KeepBut w w' g none := by
 have HR0 := aM_ hr0; have HC0 := aM_ hc0; clear hr0 hc0; have HI1 := aM_ hI; have HK := aM_ (KeepBut.refl w g none); have HL := aM_ hB.size; clear hI; have HW0 := aM_ hB.size; have HB := aM_ hB; clear hB; have H : ((sI_111.f k l0 s1_0 s1_1 s1_2 s1_3 s1_4 s1_5).bind fun bt245 => (some (decide (bt245.1 ≥ 0), bt245.2.1, bt245.2.2.1, bt245.2.2.2.1, bt245.2.2.2.2.1, bt245.2.2.2.2.2.1, bt245.2.2.2.2.2.2))) = some (r1, r2, r3, r4, r5, r6, r7) := h; clear h; replace H := oB_ H; obtain ⟨⟨t245, t246, t247, t248, t249, t250, t251⟩, A3, H⟩ := H; replace H : (some (decide (t245 ≥ 0), t246, t247, t248, t249, t250, t251)) = some (r1, r2, r3, r4, r5, r6, r7) := H; simp only [Option.some.injEq, Prod.mk.injEq] at H; obtain ⟨rfl, rfl, rfl, rfl, rfl, rfl, rfl⟩ := H; go_enter Tryz.func109, Tryz.ntmps109
 go_wp2_with (first | ((with_reducible refine gC_ (f := 113) rfl ?_); refine gL_ (some 7) Tryz.func113 #[.slice A0 l0.length c0, .func (.func 111) #[] #[.pointer (some ⟨g, 0, none⟩)]] rfl ?_; (with_reducible refine (sI_111.calls k _ _ l0 g s1_0 s1_1 s1_2 s1_3 s1_4 s1_5 t245 t246 t247 t248 t249 t250 t251 w0 _ ?side1 ?side2 ?side3 ?side4 ?side5 A3.out).mono ?_); (case side1 => repeat (first | (with_reducible first | exact HI1.out | apply IsS24.alloc | apply IsS24.drewN | apply IsS24.drew | apply IsS24.set_0 | apply IsS24.set_1 | apply IsS24.set_2 | apply IsS24.set_3 | apply IsS24.set_4 | apply IsS24.set_5) | exact HI1.out)); (case side2 => repeat (first | (with_reducible first | exact HB.out | apply bA_ | apply bN_ | apply b1_ | refine bS_ ?_ (IsS24.ge HI1.out)) | exact HB.out)); (case side3 => exact Kd.C_keep 0 HR0.out (by repeat (first | (with_reducible first | exact HK.out | apply KeepBut.set_ | apply keep_drewN | apply keep_drew | apply keep_alloc) | exact HK.out)) hf0); (case side4 => exact HC0.out); (case side5 => exact hf0); rintro e w4 ⟨rfl, hi, hb, hk⟩; refine ⟨_, rfl, ?_⟩; replace HK := aM_ (KeepBut.trans (by repeat (first | (with_reducible first | exact HK.out | apply KeepBut.set_ | apply keep_drewN | apply keep_drew | apply keep_alloc) | exact HK.out)) hk (.inl rfl)); replace HB := aM_ (hb); replace HI1 := aM_ (hi)))
 go_ret; exact ⟨eR_, by repeat (first | (with_reducible first | exact HI1.out | apply IsS24.alloc | apply IsS24.drewN | apply IsS24.drew | apply IsS24.set_0 | apply IsS24.set_1 | apply IsS24.set_2 | apply IsS24.set_3 | apply IsS24.set_4 | apply IsS24.set_5) | exact HI1.out), by repeat (first | (with_reducible first | exact HB.out | apply bA_ | apply bN_ | apply b1_ | refine bS_ ?_ (IsS24.ge HI1.out)) | exact HB.out), by repeat (first | (with_reducible first | exact HK.out | apply KeepBut.set_ | apply keep_drewN | apply keep_drew | apply keep_alloc) | exact HK.out)⟩
def isa_Read.j0 : Nat → List Int → Int → Int → Int → Int → Int → Int → ByteArray → Option (List Int)
  | 0, _, _, _, _, _, _, _, _ => none
  | k + 1, x2, x3, x253a, x253b, x253c, x253d, x253e, x253f => (isa_HasB.f x3).bind fun t258 => (if t258 = true then (if x2.length < 17592186044416 then (some (x2 ++ [x253d])) else (none)) else (some x2))
def isa_Read.f (k : Nat) (a0_0 : Int) (a0_1 : Int) (a0_2 : Int) (a0_3 : Int) (a0_4 : Int) (a0_5 : ByteArray) : Option (List Int) := (isa_Shape.f k a0_0).bind fun t253 => ((isa_HasA.f k t253).bind fun t254 => (if t254 = true then (if ([] : List Int).length < 17592186044416 then (isa_Read.j0 k (([] : List Int) ++ [a0_2]) t253 a0_0 a0_1 a0_2 a0_3 a0_4 a0_5) else (none)) else (isa_Read.j0 k ([] : List Int) t253 a0_0 a0_1 a0_2 a0_3 a0_4 a0_5)))
theorem isa_Read.calls (k : Nat) (a0_0 : Int) (a0_1 : Int) (a0_2 : Int) (a0_3 : Int) (a0_4 : Int) (a0_5 : ByteArray) (r : List Int) (w : World) (h : isa_Read.f k a0_0 a0_1 a0_2 a0_3 a0_4 a0_5 = some r) :
    Calls Tryz.prog 110 #[.agg #[.int .i64 a0_0, .int .i64 a0_1, .int .i64 a0_2, .int .i64 a0_3, .int .i64 a0_4, .string a0_5]] w fun e w' => ∃ v0_ : Value, e = .returned (v0_) ∧ Kd.R (Kd.int .i64) 3 w' w.heap.size (fun _ => True) v0_ r ∧ Below w.heap.size w w' := by
 have hu24 := Tryz.underlying24; have HB := aM_ (Below.refl w.heap.size w); have H : ((isa_Shape.f k a0_0).bind fun t253 => ((isa_HasA.f k t253).bind fun t254 => (if t254 = true then (if ([] : List Int).length < 17592186044416 then (isa_Read.j0 k (([] : List Int) ++ [a0_2]) t253 a0_0 a0_1 a0_2 a0_3 a0_4 a0_5) else (none)) else (isa_Read.j0 k ([] : List Int) t253 a0_0 a0_1 a0_2 a0_3 a0_4 a0_5)))) = some r := h; clear h; obtain ⟨t253, A2, H⟩ := oB_ H; obtain ⟨t254, A3, H⟩ := oB_ H; have HC4 := aM_ H; clear H; go_enter Tryz.func110, Tryz.ntmps110
 go_upto_if 8 with (first | ((with_reducible refine gate_dst (N := 1) rfl ?_); refine bX_ (N := 1) (cs := #[.int .i64 a0_0, .int .i64 a0_1, .int .i64 a0_2, .int .i64 a0_3, .int .i64 a0_4, .string a0_5]) (t := 24) ?_; intro gb252 hg w5 hbox hb; replace BK252 := aM_ (hbox); replace GW252 := aM_ (gE_ hg (bl_ HB)); replace GE252 := aM_ (gE_ hg (bl_ HB)); replace HB := aM_ (bT_ (bl_ HB) hb); clear hb hbox hg; obtain ⟨hcz6_0, hcz6_1, hcz6_2, hcz6_3, hcz6_4, hcz6_5⟩ := cl6_ BK252.out; obtain ⟨hfz6_0, hfz6_1, hfz6_2, hfz6_3, hfz6_4, hfz6_5⟩ := fz6_ BK252.out) | ((with_reducible refine gC_ (f := 89) rfl ?_); refine gL_ (some 6) Tryz.func89 #[.int .i64 a0_0] rfl ?_; (with_reducible refine (isa_Shape.calls k a0_0 t253 _ A2.out).mono ?_); rintro e w' ⟨rfl, ⟨nd, rfl⟩⟩; refine ⟨_, rfl, ?_⟩) | ((with_reducible refine gC_ (f := 92) rfl ?_); refine gL_ (some 8) Tryz.func92 #[.int .i64 t253] rfl ?_; (with_reducible refine (isa_HasA.calls k t253 t254 _ A3.out).mono ?_); rintro e w' ⟨rfl, ⟨nd, rfl⟩⟩; refine ⟨_, rfl, ?_⟩))
 (try simp only [Act.put, List.setIfInBounds_toArray, List.set_cons_zero, List.set_cons_succ])
 go_cut [2] (fun v2 wc => ∃ (kq : Nat) (x2_3 : List Int), As_ (isa_Read.j0 kq x2_3 t253 a0_0 a0_1 a0_2 a0_3 a0_4 a0_5 = some r) ∧ As_ (kq ≤ k) ∧ As_ (Kd.R (Kd.int .i64) 3 wc w.heap.size (fun _ => True) v2 x2_3) ∧ As_ (wc.heap[gb252]? = some (.cells #[.int .i64 a0_0, .int .i64 a0_1, .int .i64 a0_2, .int .i64 a0_3, .int .i64 a0_4, .string a0_5] 24 (0, 0))) ∧ As_ (Below w.heap.size w wc))
 case first =>
  have H := HC4.out; clear HC4
  by_cases c7 : t254 = true
  ·subst c7; rw [if_pos rfl] at H
   by_cases c8 : ([] : List Int).length < 17592186044416
   ·rw [if_pos c8] at H; have LMc8 := aM_ c8; clear c8; obtain ⟨y255, hy255⟩ : ∃ y_ : List Int, y_ = (([] : List Int) ++ [a0_2]) := ⟨_, rfl⟩
    replace H : (isa_Read.j0 k y255 t253 a0_0 a0_1 a0_2 a0_3 a0_4 a0_5) = some r := by first | (rw [hy255]; with_reducible exact H) | (have H2_ := (Option.bind_some _ _).symm.trans H; rw [hy255]; with_reducible exact H2_) | (have H2_ := (Option.bind_some _ _).symm.trans H; with_reducible exact H2_) | with_reducible exact H | (rw [hy255]; exact H) | exact H
    have Ny255 := aM_ hy255; clear hy255; replace H := aM_ H; obtain ⟨hcz9_0, hcz9_1, hcz9_2, hcz9_3, hcz9_4, hcz9_5⟩ := cl6_ BK252.out; obtain ⟨hfz9_0, hfz9_1, hfz9_2, hfz9_3, hfz9_4, hfz9_5⟩ := fz6_ BK252.out
    go_wp2_with (first | ((with_reducible refine gate_builtin (b := .append) (xs := #[.tmp 9, .tmp 12]) rfl ?_); at_builtin; refine Kd.R_append (Kd.int .i64) (w0 := w) w.heap.size rfl (.tmp 9) (.tmp 12) 25 3 (.int .i64 0) 8 rfl Tryz.underlying25 info3 rfl (by decide) (by omega) (.slice none 0 0) ([] : List Int) a0_2 [.int .i64 a0_2] (fun _ => True) (fun _ => False) rfl rfl ?aP (fun _ hk => hk.elim) ?aF ?aO ?aB ?aS ?aL ?_; (case aP => exact rfl); (case aB => exact (bs_ HB GE252)); (case aF => exact (fun _ _ => trivial)); (case aO => exact ((Kd.R_nil _ _ _ _ (fun _ => True)))); (case aS => exact (bY_ (bs_ HB GE252))); (case aL => have := LMc8.out; omega); intro v256 w10 ho hb hg hat; rw [← Ny255.out] at ho; replace BK252 := aM_ (blk_grown (g := gb252) (o := .cells #[.int .i64 a0_0, .int .i64 a0_1, .int .i64 a0_2, .int .i64 a0_3, .int .i64 a0_4, .string a0_5] 24 (0, 0)) (rB_ BK252) hg (by simp [Value.ownBlock])); replace HB := aM_ (hb); replace HO257 := aM_ (ho); clear ho hb hg hat))
    go_meet
    case rel => exact ⟨_, (y255), H, ⟨by first | omega | exact Nat.le_refl _⟩, ⟨rR_ HO257⟩, ⟨rB_ BK252⟩, ⟨bs_ HB GE252⟩⟩
   rw [if_neg c8] at H; exact absurd H (by simp)
  replace c7 := eF_ c7; subst c7; rw [if_neg Bool.false_ne_true] at H; replace H := aM_ H; go_wp2
  go_meet
  case rel => exact ⟨_, (([] : List Int)), H, ⟨by first | omega | exact Nat.le_refl _⟩, ⟨by first | exact Kd.R_nil _ _ _ _ _ | exact Kd.N_nil _ _ _ _ _ | exact Kd.V_nil _ _ _ _ _ | exact Kd.Q_nil _ _ _ _ _ | exact Kd.S_nil _ _ _ _ _⟩, ⟨rB_ BK252⟩, ⟨bs_ HB GE252⟩⟩
 case rest =>
  clear HC4; obtain ⟨kq, x2_3, HA, HJ3, HO_2, BK252, HB⟩ := hcut
  cases kq with
  | zero => exact absurd HA.out (by simp [isa_Read.j0])
  | succ kj3 =>
   have H := HA.out; clear HA; simp only [isa_Read.j0] at H; obtain ⟨t258, A11, H⟩ := oB_ H
   by_cases c12 : t258 = true
   ·subst c12; rw [if_pos rfl] at H
    by_cases c13 : x2_3.length < 17592186044416
    ·rw [if_pos c13] at H; have LMc13 := aM_ c13; clear c13; obtain ⟨y259, hy259⟩ : ∃ y_ : List Int, y_ = (x2_3 ++ [a0_3]) := ⟨_, rfl⟩
     replace H : (some y259) = some r := by first | (rw [hy259]; with_reducible exact H) | (have H2_ := (Option.bind_some _ _).symm.trans H; rw [hy259]; with_reducible exact H2_) | (have H2_ := (Option.bind_some _ _).symm.trans H; with_reducible exact H2_) | with_reducible exact H | (rw [hy259]; exact H) | exact H
     have Ny259 := aM_ hy259; clear hy259; obtain rfl := oI_ H
     go_wp2_with (first | ((with_reducible refine gC_ (f := 93) rfl ?_); refine gL_ (some 15) Tryz.func93 #[.int .i64 t253] rfl ?_; (with_reducible refine (isa_HasB.calls t253 true _ A11.out).mono ?_); rintro e w' ⟨rfl, ⟨nd, rfl⟩⟩; refine ⟨_, rfl, ?_⟩; obtain ⟨hcz14_0, hcz14_1, hcz14_2, hcz14_3, hcz14_4, hcz14_5⟩ := cl6_ BK252.out; obtain ⟨hfz14_0, hfz14_1, hfz14_2, hfz14_3, hfz14_4, hfz14_5⟩ := fz6_ BK252.out) | ((with_reducible refine gate_builtin (b := .append) (xs := #[.tmp 16, .tmp 19]) rfl ?_); at_builtin; refine Kd.R_append (Kd.int .i64) (w0 := w) w.heap.size rfl (.tmp 16) (.tmp 19) 25 3 (.int .i64 0) 8 rfl Tryz.underlying25 info3 rfl (by decide) (by omega) u2 x2_3 a0_3 [.int .i64 a0_3] (fun _ => True) (fun _ => False) rfl rfl ?aP (fun _ hk => hk.elim) ?aF ?aO ?aB ?aS ?aL ?_; (case aP => exact rfl); (case aB => exact (bs_ HB GE252)); (case aF => exact (fun _ _ => trivial)); (case aO => exact (rR_ HO_2)); (case aS => exact (bY_ (bs_ HB GE252))); (case aL => have := LMc13.out; omega); intro v260 w15 ho hb hg hat; rw [← Ny259.out] at ho; replace BK252 := aM_ (blk_grown (g := gb252) (o := .cells #[.int .i64 a0_0, .int .i64 a0_1, .int .i64 a0_2, .int .i64 a0_3, .int .i64 a0_4, .string a0_5] 24 (0, 0)) (rB_ BK252) hg (Kd.R_ne HO_2.out BK252.out (by decide))); replace HB := aM_ (hb); replace HO261 := aM_ (ho); clear HO_2; clear ho hb hg hat))
     go_ret; exact ⟨_, eR_, rR_ HO261, bs_ HB GE252⟩
    rw [if_neg c13] at H; exact absurd H (by simp)
   replace c12 := eF_ c12; subst c12; rw [if_neg Bool.false_ne_true] at H; obtain rfl := oI_ H
   go_wp2_with (first | ((with_reducible refine gC_ (f := 93) rfl ?_); refine gL_ (some 15) Tryz.func93 #[.int .i64 t253] rfl ?_; (with_reducible refine (isa_HasB.calls t253 false _ A11.out).mono ?_); rintro e w' ⟨rfl, ⟨nd, rfl⟩⟩; refine ⟨_, rfl, ?_⟩))
   go_ret; exact ⟨_, eR_, rR_ HO_2, bs_ HB GE252⟩
end
section
def dag_reads.f (k : Nat) (a0_0 a0_1 a0_2 a0_3 a0_4 : Int) (a0_5 : ByteArray) (a1_0 a1_1 a1_2 a1_3 a1_4 : Int) (a1_5 : ByteArray) : Option Bool :=
  (isa_Read.f k a0_0 a0_1 a0_2 a0_3 a0_4 a0_5).bind fun l => (sC_111.f k l a1_0 a1_1 a1_2 a1_3 a1_4 a1_5).bind fun t => some t.1
theorem dag_reads.calls (k : Nat) (a0_0 : Int) (a0_1 : Int) (a0_2 : Int) (a0_3 : Int) (a0_4 : Int) (a0_5 : ByteArray) (a1_0 : Int) (a1_1 : Int) (a1_2 : Int) (a1_3 : Int) (a1_4 : Int) (a1_5 : ByteArray) (r : Bool) (w : World) (h : dag_reads.f k a0_0 a0_1 a0_2 a0_3 a0_4 a0_5 a1_0 a1_1 a1_2 a1_3 a1_4 a1_5 = some r) :
    Calls Tryz.prog 101 #[.agg #[.int .i64 a0_0, .int .i64 a0_1, .int .i64 a0_2, .int .i64 a0_3, .int .i64 a0_4, .string a0_5], .agg #[.int .i64 a1_0, .int .i64 a1_1, .int .i64 a1_2, .int .i64 a1_3, .int .i64 a1_4, .string a1_5]] w fun e w' => e = .returned (.bool r) ∧ Below w.heap.size w w' := by
  have hu24 := Tryz.underlying24; unfold dag_reads.f at h; obtain ⟨rs, h1, h⟩ := Option.bind_eq_some_iff.mp h; obtain ⟨⟨t1, t2, t3, t4, t5, t6, t7⟩, h2, h⟩ := Option.bind_eq_some_iff.mp h; obtain rfl := Option.some.inj h; have H1 := aM_ h1; have H2 := aM_ h2; clear h h1 h2; have HB := aM_ (Below.refl w.heap.size w); go_enter Tryz.func101, Tryz.ntmps101
  go_wp2_with (first | ((with_reducible refine gate_dst (N := 2) rfl ?_); refine bX_ (N := 2) (cs := #[.int .i64 a0_0, .int .i64 a0_1, .int .i64 a0_2, .int .i64 a0_3, .int .i64 a0_4, .string a0_5]) (t := 24) ?_; intro g2 hg w2 hbox hb; have hc0 := (bC_ hbox 0).trans rfl; have BX2 := aM_ hbox; have HG2 := aM_ hg; have HB2 := aM_ hb; clear hbox hg hb)  | ((with_reducible refine gate_dst (N := 3) rfl ?_); refine bX_ (N := 3) (cs := #[.int .i64 a1_0, .int .i64 a1_1, .int .i64 a1_2, .int .i64 a1_3, .int .i64 a1_4, .string a1_5]) (t := 24) ?_; intro g3 hg w3 hbox hb; have q0 := (bC_ (kB_ BX2.out hb) 0).trans rfl; have q1 := (bC_ (kB_ BX2.out hb) 1).trans rfl; have q2 := (bC_ (kB_ BX2.out hb) 2).trans rfl; have q3 := (bC_ (kB_ BX2.out hb) 3).trans rfl; have q4 := (bC_ (kB_ BX2.out hb) 4).trans rfl; have q5 := (bC_ (kB_ BX2.out hb) 5).trans rfl; have BX3 := aM_ hbox; have HG3 := aM_ hg; have HB3 := aM_ hb; clear hbox hg hb)  | (go_at_call 110; (with_reducible refine (isa_Read.calls k a0_0 a0_1 a0_2 a0_3 a0_4 a0_5 rs _ H1.out).mono ?_); rintro e w4 ⟨v4, rfl, ho, hb⟩; obtain ⟨Ao, co, eo⟩ := Kd.R_slice ho; subst eo; have HO := aM_ ho; have HB4 := aM_ hb; clear ho hb)  | (go_at_call 109; (refine (sC_111.calls k Ao co rs g3 a1_0 a1_1 a1_2 a1_3 a1_4 a1_5 t1 t2 t3 t4 t5 t6 t7 w _ ⟨kB_ BX3.out HB4.out, ?_⟩ ?_ (Kd.R_reads' HO.out).2.2 (Kd.R_reads' HO.out).2.1 ?_ H2.out).mono ?_)))
  case refine_1 => have := HG3.out; have := HB2.out.size; omega
  case refine_2 => exact HB2.out.trans ((HB3.out.mono HB2.out.size).trans (HB4.out.mono (Nat.le_trans HB2.out.size HB3.out.size)))
  case refine_3 =>
    intro ad e1 h0; subst e1; obtain ⟨g, cap, e2, hb, _⟩ := Kd.R_form HO.out h0; have e3 : some ad = some ⟨g, 0, none⟩ := (by injection e2)
    obtain rfl := Option.some.inj e3; have := blk_lt BX3.out; show g ≠ g3; omega
  case refine_4 =>
    rintro e w' ⟨rfl, hi, hb, hk⟩; go_wp2; go_ret; exact ⟨rfl, hb⟩
end
end Go.Proofs.YtibfkkjkahpobaaGreat.PDag
