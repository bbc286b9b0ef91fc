-- the texts that this claim needs, out of this session's and its print's (wip/shrink.py)
import Derived.Test.YtfnchdlgkkdegaaPAllx10T
import Derived.Test.YtfnchdlgkkdegaaPAllx9T
import Derived.Laws.BitsAllLaws
import Derived.Lib.Strings
namespace Go.Proofs.Ytfnchdlgkkdegaa.PAll
open Go.RowKit Go.Proofs.YtfnchdlgkkdegaaW.PrintWords Go.Proofs.YtfnchdlgkkdegaaW.PrintLast Go.Proofs.YtfnchdlgkkdegaaW.PrintMore
set_option linter.unusedVariables false
set_option linter.unusedSimpArgs false
def formOf (op : Int) : Int := rd [0, 1, 1, 1, 1, 1, 1, 1, 1, 1, 1, 1, 1, 1, 1, 1, 1, 1, 1, 1, 1, 2, 3, 4, 3, 5, 6, 7, 8, 9, 9, 8, 0, 0] op
def hasD (f : Int) : Bool := f == 1 || f == 2 || f == 3 || f == 4 || f == 6
def hasA (f : Int) : Bool := f == 1 || f == 2 || f == 3 || f == 5 || f == 7 || f == 9
def hasB (f : Int) : Bool := f == 1 || f == 5
def target (f : Int) : Bool := f == 8 || f == 9
def bitsOf (f : Int) : Int := if f = 3 ∨ f = 5 ∨ f = 9 then 14 else if f = 4 ∨ f = 8 then 18 else 0
theorem upto34 {p : Int → Prop} (h : ∀ n : Fin 34, p (n.val : Int)) (op : Int) (h0 : 0 ≤ op) (h1 : op ≤ 33) : p op := by
  have := h ⟨op.toNat, by omega⟩
  rwa [show ((op.toNat : Nat) : Int) = op from by omega] at this
theorem upto10 {p : Int → Prop} (h : ∀ n : Fin 10, p (n.val : Int)) (f : Int) (h0 : 0 ≤ f) (h1 : f ≤ 9) : p f := by
  have := h ⟨f.toNat, by omega⟩
  rwa [show ((f.toNat : Nat) : Int) = f from by omega] at this
theorem formOf_range (op : Int) : 0 ≤ op → op ≤ 33 → 0 ≤ formOf op ∧ formOf op ≤ 9 := upto34 (p := fun op => 0 ≤ formOf op ∧ formOf op ≤ 9) (by decide) op
theorem formOf_li (op : Int) : 0 ≤ op → op ≤ 33 → (formOf op = 4 ↔ op = 23) := upto34 (p := fun op => formOf op = 4 ↔ op = 23) (by decide) op
theorem form_eq (op : Int) (h0 : 0 ≤ op) (h1 : op ≤ 33) : r3_Form.f op = some (formOf op) := upto34 (p := fun op => r3_Form.f op = some (formOf op)) (by decide) op h0 h1
theorem shape_eq {k : Nat} (hk : 10 ≤ k) (op : Int) (h0 : 0 ≤ op) (h1 : op ≤ 33) : isa_Shape.f k op = some (formOf op) :=
  at_rounds (isa_Shape.mono op) hk (upto34 (p := fun op => isa_Shape.f 10 op = some (formOf op)) (by decide) op h0 h1)
theorem isa_hasD (f : Int) (h0 : 0 ≤ f) (h1 : f ≤ 9) : isa_HasD.f f = some (hasD f) := upto10 (p := fun f => isa_HasD.f f = some (hasD f)) (by decide) f h0 h1
theorem isa_hasA {k : Nat} (hk : 10 ≤ k) (f : Int) (h0 : 0 ≤ f) (h1 : f ≤ 9) : isa_HasA.f k f = some (hasA f) :=
  at_rounds (isa_HasA.mono f) hk (upto10 (p := fun f => isa_HasA.f 10 f = some (hasA f)) (by decide) f h0 h1)
theorem isa_hasB (f : Int) (h0 : 0 ≤ f) (h1 : f ≤ 9) : isa_HasB.f f = some (hasB f) := upto10 (p := fun f => isa_HasB.f f = some (hasB f)) (by decide) f h0 h1
theorem isa_target (f : Int) (h0 : 0 ≤ f) (h1 : f ≤ 9) : isa_Target.f f = some (target f) := upto10 (p := fun f => isa_Target.f f = some (target f)) (by decide) f h0 h1
theorem isa_bits {k : Nat} (hk : 10 ≤ k) (f : Int) (h0 : 0 ≤ f) (h1 : f ≤ 9) : isa_Bits.f k f = some (bitsOf f) :=
  at_rounds (isa_Bits.mono f) hk (upto10 (p := fun f => isa_Bits.f 10 f = some (bitsOf f)) (by decide) f h0 h1)
theorem ref_hasD (f : Int) (h0 : 0 ≤ f) (h1 : f ≤ 9) : r3_HasD.f f = some (hasD f) := upto10 (p := fun f => r3_HasD.f f = some (hasD f)) (by decide) f h0 h1
theorem ref_hasA (f : Int) (h0 : 0 ≤ f) (h1 : f ≤ 9) : r3_HasA.f f = some (hasA f) := upto10 (p := fun f => r3_HasA.f f = some (hasA f)) (by decide) f h0 h1
theorem ref_hasB (f : Int) (h0 : 0 ≤ f) (h1 : f ≤ 9) : r3_HasB.f f = some (hasB f) := upto10 (p := fun f => r3_HasB.f f = some (hasB f)) (by decide) f h0 h1
theorem ref_target (f : Int) (h0 : 0 ≤ f) (h1 : f ≤ 9) : r3_Target.f f = some (target f) := upto10 (p := fun f => r3_Target.f f = some (target f)) (by decide) f h0 h1
theorem ref_bits {k : Nat} (hk : 10 ≤ k) (f : Int) (h0 : 0 ≤ f) (h1 : f ≤ 9) : r3_Bits.f k f = some (bitsOf f) :=
  at_rounds (r3_Bits.mono f) hk (upto10 (p := fun f => r3_Bits.f 10 f = some (bitsOf f)) (by decide) f h0 h1)
def regOk (has : Bool) (n : Int) : Bool := if has = true then decide (0 ≤ n ∧ n ≤ 15) else n == 0
def fit14 (n : Int) : Bool := decide (-8192 ≤ n ∧ n < 8192)
def fit18 (n : Int) : Bool := decide (-131072 ≤ n ∧ n < 131072)
theorem isa_reg_eq (has : Bool) (n : Int) : isa_reg.f has n = some (regOk has n) := by
  unfold isa_reg.f regOk
  cases has with
  | true =>
    by_cases h : n = 0
    · subst h; rfl
    · rw [if_neg h]
      by_cases h2 : n > 0
      · simp only [if_pos h2, if_true, Option.some.injEq]
        by_cases h3 : n < 16 <;> simp [h3] <;> omega
      · simp only [if_neg h2, if_true, Option.some.injEq]
        symm; rw [decide_eq_false_iff_not]; omega
  | false =>
    by_cases h : n = 0
    · subst h; rfl
    · simp [h]
theorem ref_reg_eq (has : Bool) (n : Int) : r3_reg.f n has = some (regOk has n) := by
  unfold r3_reg.f regOk r0_Num.f
  cases has with
  | true =>
    by_cases h : n ≥ 0
    · simp only [if_pos h, if_true, Option.bind_some, Option.some.injEq]
      by_cases h3 : n ≤ 15 <;> simp [h3] <;> omega
    · simp only [if_neg h, if_true, Option.bind_some, Option.some.injEq]
      symm; rw [decide_eq_false_iff_not]; omega
  | false => simp
theorem within14 (n : Int) : word_Within.f n 14 = some (fit14 n) := by
  unfold word_Within.f fit14
  rw [if_pos (by decide +kernel), show shl .i64 (-1) (wrap64 (14 - 1)) = -8192 from by decide +kernel, show shl .i64 1 (wrap64 (14 - 1)) = 8192 from by decide +kernel]
  by_cases h : n ≥ -8192
  · rw [if_pos h]; by_cases h2 : n < 8192 <;> simp [h2]; omega
  · rw [if_neg h]; congr 1; symm; rw [decide_eq_false_iff_not]; omega
theorem within18 (n : Int) : word_Within.f n 18 = some (fit18 n) := by
  unfold word_Within.f fit18
  rw [if_pos (by decide +kernel), show shl .i64 (-1) (wrap64 (18 - 1)) = -131072 from by decide +kernel, show shl .i64 1 (wrap64 (18 - 1)) = 131072 from by decide +kernel]
  by_cases h : n ≥ -131072
  · rw [if_pos h]; by_cases h2 : n < 131072 <;> simp [h2]; omega
  · rw [if_neg h]; congr 1; symm; rw [decide_eq_false_iff_not]; omega
theorem fits14 (n : Int) : r1_Fits.f n 14 = some (fit14 n) := by
  unfold r1_Fits.f fit14
  rw [if_pos (by decide +kernel), show wrap64 (-(shl .i64 1 (wrap64 (14 - 1)))) = -8192 from by decide +kernel, show shl .i64 1 (wrap64 (14 - 1)) = 8192 from by decide +kernel]
  by_cases h : n ≥ -8192
  · rw [if_pos h]; by_cases h2 : n < 8192 <;> simp [h2]; omega
  · rw [if_neg h]; congr 1; symm; rw [decide_eq_false_iff_not]; omega
theorem fits18 (n : Int) : r1_Fits.f n 18 = some (fit18 n) := by
  unfold r1_Fits.f fit18
  rw [if_pos (by decide +kernel), show wrap64 (-(shl .i64 1 (wrap64 (18 - 1)))) = -131072 from by decide +kernel, show shl .i64 1 (wrap64 (18 - 1)) = 131072 from by decide +kernel]
  by_cases h : n ≥ -131072
  · rw [if_pos h]; by_cases h2 : n < 131072 <;> simp [h2]; omega
  · rw [if_neg h]; congr 1; symm; rw [decide_eq_false_iff_not]; omega
def letter (c : Int) : Bool := c == 95 || (decide (97 ≤ c) && decide (c ≤ 122))
def digit (c : Int) : Bool := decide (48 ≤ c) && decide (c ≤ 57)
def nameFrom (s : ByteArray) (i : Int) : Nat → Bool
  | 0 => true
  | d + 1 => (letter (bt s i) || digit (bt s i)) && nameFrom s (i + 1) d
def nameOk (s : ByteArray) : Bool := decide (0 < s.size) && (decide (s.size ≤ 12) && (letter (bt s 0) && nameFrom s 0 s.size))
theorem letter_eq (c : Int) : isa_letter.f c = some (letter c) := by
  unfold isa_letter.f letter
  by_cases h : c = 95
  · simp [h]
  · by_cases h2 : c ≥ 97 <;> simp [h, h2]
theorem wrapI {i : Int} (h0 : 0 ≤ i) (h : i ≤ 4611686018427387904) : wrap64 (i + 1) = i + 1 := by
  unfold wrap64; omega
theorem isa_name_loop (s : ByteArray) (hs : s.size ≤ 12) : ∀ (d : Nat) (k : Nat) (i : Int), 0 ≤ i → i + d = s.size → 2 * d + 1 ≤ k → isa_Name2.l0 k s s.size i = some (nameFrom s i d)
  | 0, k, i, h0, h1, hk => by
    obtain ⟨m, rfl⟩ : ∃ m, k = m + 1 := ⟨k - 1, by omega⟩
    simp only [isa_Name2.l0, nameFrom]; rw [if_neg (by omega)]
  | d + 1, k, i, h0, h1, hk => by
    obtain ⟨m, rfl⟩ : ∃ m, k = m + 2 := ⟨k - 2, by omega⟩
    simp only [isa_Name2.l0, nameFrom]; rw [if_pos (by omega), if_pos h0, if_pos (by omega), letter_eq]
    simp only [Option.bind_some]
    have hw : wrap64 (i + 1) = i + 1 := wrapI h0 (by omega)
    have ih := isa_name_loop s hs d m (i + 1) (by omega) (by omega) (by omega)
    cases hl : letter (bt s i) with
    | true => simp only [if_true, isa_Name2.j2, Bool.false_eq_true, if_false, hw, ih, Bool.true_or, Bool.true_and]
    | false =>
      simp only [Bool.false_eq_true, if_false, Bool.false_or]
      by_cases h3 : bt s i < 48
      · rw [if_pos h3]; simp only [isa_Name2.j2, if_true]; congr 1; simp [digit]; omega
      · rw [if_neg h3]
        by_cases h4 : bt s i > 57
        · simp only [isa_Name2.j2, decide_eq_true h4, if_true]; congr 1; simp [digit]; omega
        · simp only [isa_Name2.j2, decide_eq_false h4, Bool.false_eq_true, if_false, hw, ih]
          have : digit (bt s i) = true := by simp [digit]; omega
          rw [this, Bool.true_and]
theorem toList_nil (s : ByteArray) : s.toList = [] ↔ s.size = 0 := by
  rw [ByteArray.toList_eq, Lib.size_eq]
  exact List.length_eq_zero_iff.symm
theorem isa_name {k : Nat} (hk : 40 ≤ k) (s : ByteArray) : isa_Name2.f k s = some (nameOk s) := by
  obtain ⟨m, rfl⟩ : ∃ m, k = m + 1 := ⟨k - 1, by omega⟩
  unfold isa_Name2.f nameOk
  by_cases h : s.toList = []
  · rw [if_pos h]
    have h0 : s.size = 0 := (toList_nil s).1 h
    simp [isa_Name2.j0, h0]
  · rw [if_neg h]
    have h0 : 0 < s.size := by
      have : s.size ≠ 0 := fun h1 => h ((toList_nil s).2 h1)
      omega
    by_cases h12 : (s.size : Int) > 12
    · rw [if_pos h12]
      have : ¬ s.size ≤ 12 := by omega
      simp [isa_Name2.j0, this]
    · rw [if_neg h12, if_pos (by omega), letter_eq]
      simp only [Option.bind_some]
      have h12' : s.size ≤ 12 := by omega
      cases hl : letter (bt s 0) with
      | false => simp [isa_Name2.j0]
      | true =>
        simp only [isa_Name2.j0, Bool.not_true, Bool.false_eq_true, if_false]
        rw [isa_name_loop s h12' s.size m 0 (by omega) (by omega) (by omega)]
        simp [h0, h12']
theorem ref_name_loop (s : ByteArray) (hs : s.size ≤ 12) : ∀ (d : Nat) (k : Nat) (i : Int), 0 ≤ i → i + d = s.size → 2 * d + 1 ≤ k → r3_Name.l0 k s i = some (nameFrom s i d)
  | 0, k, i, h0, h1, hk => by
    obtain ⟨m, rfl⟩ : ∃ m, k = m + 1 := ⟨k - 1, by omega⟩
    simp only [r3_Name.l0, nameFrom]; rw [if_neg (by omega)]
  | d + 1, k, i, h0, h1, hk => by
    obtain ⟨m, rfl⟩ : ∃ m, k = m + 2 := ⟨k - 2, by omega⟩
    simp only [r3_Name.l0, nameFrom]; rw [if_pos (by omega), if_pos h0]
    have hw : wrap64 (i + 1) = i + 1 := wrapI h0 (by omega)
    have ih := ref_name_loop s hs d m (i + 1) (by omega) (by omega) (by omega)
    generalize bt s i = c
    by_cases h1 : c ≥ 97 <;> by_cases h2 : c ≤ 122 <;> by_cases h3 : c = 95 <;> by_cases h4 : c ≥ 48 <;> by_cases h5 : c ≤ 57 <;>
      first
      | omega
      | (simp [r3_Name.j2, h1, h2, h3, h4, h5, hw, ih, letter, digit]; done)
theorem ref_name {k : Nat} (hk : 40 ≤ k) (s : ByteArray) : r3_Name.f k s = some (nameOk s) := by
  obtain ⟨m, rfl⟩ : ∃ m, k = m + 1 := ⟨k - 1, by omega⟩
  unfold r3_Name.f nameOk
  by_cases h : (s.size : Int) = 0
  · rw [if_pos h]
    have h0 : s.size = 0 := by omega
    simp [r3_Name.j0, h0]
  · rw [if_neg h]
    have h0 : 0 < s.size := by omega
    by_cases h12 : (s.size : Int) > 12
    · rw [if_pos h12]
      have : ¬ s.size ≤ 12 := by omega
      simp [r3_Name.j0, this]
    · rw [if_neg h12, if_pos (by omega)]
      have h12' : s.size ≤ 12 := by omega
      have hl := ref_name_loop s h12' s.size m 0 (by omega) (by omega) (by omega)
      have hd : digit (bt s 0) = true → letter (bt s 0) = false := by simp [digit, letter]; omega
      have hn : letter (bt s 0) = false → digit (bt s 0) = false → nameFrom s 0 s.size = false := by
        intro h1 h2
        obtain ⟨d, hd'⟩ : ∃ d, s.size = d + 1 := ⟨s.size - 1, by omega⟩
        rw [hd', nameFrom, h1, h2]; rfl
      by_cases h1 : bt s 0 ≥ 48
      · rw [if_pos h1]
        by_cases h2 : bt s 0 ≤ 57
        · have hdd : digit (bt s 0) = true := by simp [digit]; omega
          simp [r3_Name.j0, h2, hd hdd]
        · have hdd : digit (bt s 0) = false := by simp [digit]; omega
          simp only [r3_Name.j0, decide_eq_false h2, Bool.false_eq_true, if_false, hl, h0, h12', decide_true, Bool.true_and]
          cases hll : letter (bt s 0) with
          | true => rfl
          | false => rw [hn hll hdd]; rfl
      · rw [if_neg h1]
        have hdd : digit (bt s 0) = false := by simp [digit]; omega
        simp only [r3_Name.j0, Bool.false_eq_true, if_false, hl, h0, h12', decide_true, Bool.true_and]
        cases hll : letter (bt s 0) with
        | true => rfl
        | false => rw [hn hll hdd]; rfl
def immOk (f imm : Int) (s : ByteArray) : Bool :=
  if target f = true then (if s.toList = [] then decide (0 ≤ imm ∧ imm ≤ 1023) else (imm == 0 && nameOk s))
  else if s.toList = [] then (if f = 3 ∨ f = 5 then fit14 imm else if f = 4 then fit18 imm else imm == 0)
  else (if f = 4 then (nameOk s && fit18 imm) else false)
def insOk (op d a b imm : Int) (s : ByteArray) : Bool :=
  decide (0 ≤ op ∧ op ≤ 33) && (regOk (hasD (formOf op)) d && (regOk (hasA (formOf op)) a && (regOk (hasB (formOf op)) b && immOk (formOf op) imm s)))
theorem isa_is (op : Int) : isa_Is.f op = some (decide (0 ≤ op ∧ op ≤ 33)) := by
  unfold isa_Is.f
  by_cases h : op ≥ 0
  · rw [if_pos h]; congr 1; by_cases h2 : op ≤ 33 <;> simp [h2] <;> omega
  · rw [if_neg h]; congr 1; symm; rw [decide_eq_false_iff_not]; omega
theorem ref_valid (op : Int) : r3_Valid.f op = some (decide (0 ≤ op ∧ op ≤ 33)) := by
  unfold r3_Valid.f r0_Between.f
  by_cases h : op ≥ 0
  · rw [if_pos h]; simp only [Option.bind_some]; congr 1; by_cases h2 : op ≤ 33 <;> simp [h2] <;> omega
  · rw [if_neg h]; simp only [Option.bind_some]; congr 1; symm; rw [decide_eq_false_iff_not]; omega
theorem form_cases (f : Int) (h0 : 0 ≤ f) (h1 : f ≤ 9) : f = 0 ∨ f = 1 ∨ f = 2 ∨ f = 3 ∨ f = 4 ∨ f = 5 ∨ f = 6 ∨ f = 7 ∨ f = 8 ∨ f = 9 := by omega
theorem isa_imm_eq {k : Nat} (hk : 50 ≤ k) (op d a b imm : Int) (s : ByteArray) (f : Int) (h0 : 0 ≤ f) (h1 : f ≤ 9) : isa_imm.f k op d a b imm s f = some (immOk f imm s) := by
  obtain ⟨m, rfl⟩ : ∃ m, k = m + 3 := ⟨k - 3, by omega⟩
  have hn := isa_name (k := m + 2) (by omega) s
  have hb := isa_bits (k := m) (by omega) f h0 h1
  unfold isa_imm.f immOk
  rw [isa_target f h0 h1]
  simp only [Option.bind_some]
  by_cases hs : s.toList = []
  · rcases form_cases f h0 h1 with rfl | rfl | rfl | rfl | rfl | rfl | rfl | rfl | rfl | rfl <;>
      simp [isa_imm.j0, isa_imm.j1, isa_imm.j2, target, hs, isa_Target.f, hb, bitsOf, within14, within18]
    all_goals
      by_cases h : 0 ≤ imm <;> simp [h] <;> omega
  · have hne : (s.toList != []) = true := by simpa using hs
    rcases form_cases f h0 h1 with rfl | rfl | rfl | rfl | rfl | rfl | rfl | rfl | rfl | rfl <;>
      simp [isa_imm.j0, isa_imm.j1, isa_imm.j2, target, hs, hn, isa_Target.f, hb, bitsOf, within14, within18]
    · cases nameOk s <;> simp
    · by_cases h : imm = 0 <;> simp [h]
    · by_cases h : imm = 0 <;> simp [h]
theorem isa_ins_eq {k : Nat} (hk : 50 ≤ k) (op d a b imm : Int) (s : ByteArray) : isa_IsIns.f k op d a b imm s = some (insOk op d a b imm s) := by
  unfold isa_IsIns.f insOk
  rw [isa_is]
  simp only [Option.bind_some]
  by_cases h : 0 ≤ op ∧ op ≤ 33
  · obtain ⟨f0, f1⟩ := formOf_range op h.1 h.2
    rw [if_pos (by simp [h]), shape_eq (by omega) op h.1 h.2]
    simp only [Option.bind_some, isa_hasD _ f0 f1, isa_hasA (show 10 ≤ k by omega) _ f0 f1, isa_hasB _ f0 f1, isa_reg_eq, isa_imm_eq hk op d a b imm s _ f0 f1]
    cases regOk (hasD (formOf op)) d <;> cases regOk (hasA (formOf op)) a <;> cases regOk (hasB (formOf op)) b <;> simp [h]
  · simp [h]
theorem ref_ins_eq {k : Nat} (hk : 50 ≤ k) (op d a b imm : Int) (s : ByteArray) : r3_Ins.f k op d a b imm s = some (insOk op d a b imm s) := by
  obtain ⟨m, rfl⟩ : ∃ m, k = m + 1 := ⟨k - 1, by omega⟩
  have hn := ref_name (k := m) (by omega) s
  unfold r3_Ins.f insOk
  rw [ref_valid]
  simp only [Option.bind_some]
  by_cases h : 0 ≤ op ∧ op ≤ 33
  · obtain ⟨f0, f1⟩ := formOf_range op h.1 h.2
    have hli := formOf_li op h.1 h.2
    have hb := ref_bits (k := m) (by omega) (formOf op) f0 f1
    rw [if_pos (by simp [h]), form_eq op h.1 h.2]
    simp only [Option.bind_some, ref_hasD _ f0 f1, ref_hasA _ f0 f1, ref_hasB _ f0 f1, ref_reg_eq]
    have hj : r3_Ins.j0 (m + 1) (formOf op) false op d a b imm s = some (immOk (formOf op) imm s) := by
      simp only [r3_Ins.j0, immOk, ref_target _ f0 f1, hb, Option.bind_some, Bool.false_eq_true, if_false]
      generalize formOf op = f at *
      by_cases hs : s.toList = []
      · rcases form_cases f f0 f1 with rfl | rfl | rfl | rfl | rfl | rfl | rfl | rfl | rfl | rfl <;>
          simp [target, hs, bitsOf, fits14, fits18, r0_Num.f]
        all_goals
          by_cases h : 0 ≤ imm <;> simp [h] <;> omega
      · rw [hn]
        by_cases h23 : op = 23
        · obtain rfl : f = 4 := hli.2 h23
          cases hnn : nameOk s <;> simp [target, hs, h23, fits18, hnn]
          cases fit18 imm <;> rfl
        · have h4 : f ≠ 4 := fun e => h23 (hli.1 e)
          rcases form_cases f f0 f1 with rfl | rfl | rfl | rfl | rfl | rfl | rfl | rfl | rfl | rfl <;>
            cases hnn : nameOk s <;> simp_all [target, hs]
    have hjt : r3_Ins.j0 (m + 1) (formOf op) true op d a b imm s = some false := by simp [r3_Ins.j0]
    cases regOk (hasD (formOf op)) d <;> cases regOk (hasA (formOf op)) a <;> cases regOk (hasB (formOf op)) b <;> simp [h, hj, hjt]
  · simp [h]
end Go.Proofs.Ytfnchdlgkkdegaa.PAll
