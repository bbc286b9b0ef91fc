-- the texts that this claim needs, out of this session's and its print's (wip/shrink.py)
import Derived.Test.YtfnchdlgkkdegaaIsaT
namespace Go.Proofs.Ytfnchdlgkkdegaa.PAll
open Go.RowKit Go.Proofs.YtfnchdlgkkdegaaW.PrintWords Go.Proofs.YtfnchdlgkkdegaaW.PrintLast Go.Proofs.YtfnchdlgkkdegaaW.PrintMore
set_option linter.unusedVariables false
set_option linter.unusedSimpArgs false
theorem or_nat {a b : Nat} (ha : a < 4294967296) (hb : b < 4294967296) : Go.bits .or .u32 (a : Int) (b : Int) = ((a ||| b : Nat) : Int) := u32_or_nat a b ha hb
theorem or_lt {a b : Nat} (ha : a < 4294967296) (hb : b < 4294967296) : a ||| b < 4294967296 := Nat.or_lt_two_pow (n := 32) ha hb
theorem modNat (x : Int) : ∃ n : Nat, n < 4294967296 ∧ x % 4294967296 = (n : Int) := ⟨(x % 4294967296).toNat, by omega, by omega⟩
def low (imm n : Int) : Int := Go.bits .and .u32 (imm % 4294967296) (((shl .u32 1 n) - 1) % 4294967296)
theorem low14 (imm : Int) : low imm 14 = imm % 16384 := by
  unfold low
  rw [show ((shl .u32 1 14) - 1) % 4294967296 = ((16383 : Nat) : Int) from by decide +kernel]
  obtain ⟨n, hn, he⟩ := modNat imm
  rw [he, u32_and_nat n 16383 hn (by decide), show (16383 : Nat) = 2 ^ 14 - 1 from by decide, Nat.and_two_pow_sub_one_eq_mod]
  omega
theorem low18 (imm : Int) : low imm 18 = imm % 262144 := by
  unfold low
  rw [show ((shl .u32 1 18) - 1) % 4294967296 = ((262143 : Nat) : Int) from by decide +kernel]
  obtain ⟨n, hn, he⟩ := modNat imm
  rw [he, u32_and_nat n 262143 hn (by decide), show (262143 : Nat) = 2 ^ 18 - 1 from by decide, Nat.and_two_pow_sub_one_eq_mod]
  omega
theorem and15 (x : Int) (h0 : 0 ≤ x) (h1 : x < 4294967296) : Go.bits .and .u32 x 15 = x % 16 := by
  obtain ⟨n, hn, he⟩ := modNat x
  rw [show x = (n : Int) from by omega, show (15 : Int) = ((15 : Nat) : Int) from rfl, u32_and_nat n 15 hn (by decide), show (15 : Nat) = 2 ^ 4 - 1 from by decide, Nat.and_two_pow_sub_one_eq_mod]
  omega
theorem low_eq (imm n : Int) (hn : 0 ≤ n) : word_Low.f imm n = some (low imm n) := by unfold word_Low.f low; rw [if_pos hn]
def wordOf (op d a b imm : Int) : Int :=
  let f := formOf op
  let d' := if f = 5 then b else d
  let b' := if f = 5 then 0 else b
  let w := Go.bits .or .u32 (Go.bits .or .u32 (Go.bits .or .u32 ((((op) % 4294967296) * 67108864) % 4294967296) ((((d') % 4294967296) * 4194304) % 4294967296)) ((((a) % 4294967296) * 262144) % 4294967296)) ((((b') % 4294967296) * 16384) % 4294967296)
  if bitsOf f > 0 then Go.bits .or .u32 w (low imm (bitsOf f)) else w
theorem bitsOf_cases (f : Int) (h0 : 0 ≤ f) (h1 : f ≤ 9) : bitsOf f = 0 ∨ bitsOf f = 14 ∨ bitsOf f = 18 := upto10 (p := fun f => bitsOf f = 0 ∨ bitsOf f = 14 ∨ bitsOf f = 18) (by decide) f h0 h1
theorem pack_eq {k : Nat} (hk : 20 ≤ k) (op d a b imm : Int) (s : ByteArray) (h0 : 0 ≤ op) (h1 : op ≤ 33) : bits_Pack.f k op d a b imm s = some (wordOf op d a b imm) := by
  obtain ⟨m, rfl⟩ : ∃ m, k = m + 1 := ⟨k - 1, by omega⟩
  obtain ⟨f0, f1⟩ := formOf_range op h0 h1
  unfold bits_Pack.f wordOf
  rw [shape_eq (by omega) op h0 h1]
  simp only [Option.bind_some, bits_Pack.j0, isa_bits (show 10 ≤ m by omega) _ f0 f1]
  have hb : 0 ≤ bitsOf (formOf op) := by rcases bitsOf_cases _ f0 f1 with h | h | h <;> omega
  rw [low_eq _ _ hb]
  by_cases h5 : formOf op = 5
  · simp only [h5, if_true, Option.bind_some]
    split <;> rfl
  · simp only [h5, if_false, Option.bind_some]
    split <;> rfl
theorem or_swap {x y z : Nat} (hx : x < 4294967296) (hy : y < 4294967296) (hz : z < 4294967296) :
    Go.bits .or .u32 (Go.bits .or .u32 (x : Int) (z : Int)) (y : Int) = Go.bits .or .u32 (Go.bits .or .u32 (x : Int) (y : Int)) (z : Int) := by
  rw [or_nat hx hz, or_nat hx hy, or_nat (or_lt hx hz) hy, or_nat (or_lt hx hy) hz, Nat.or_assoc, Nat.or_assoc, Nat.or_comm z y]
theorem or_zero {x : Nat} (hx : x < 4294967296) : Go.bits .or .u32 (x : Int) 0 = (x : Int) := by
  rw [show (0 : Int) = ((0 : Nat) : Int) from rfl, or_nat hx (by decide), Nat.or_zero]
theorem refword_eq {k : Nat} (hk : 20 ≤ k) (op d a b imm : Int) (s : ByteArray) (h0 : 0 ≤ op) (h1 : op ≤ 33) : r3_Word.f k op d a b imm s = some (wordOf op d a b imm) := by
  obtain ⟨m, rfl⟩ : ∃ m, k = m + 1 := ⟨k - 1, by omega⟩
  obtain ⟨f0, f1⟩ := formOf_range op h0 h1
  unfold r3_Word.f wordOf
  rw [form_eq op h0 h1]
  simp only [Option.bind_some, r3_Word.j0, ref_bits (show 10 ≤ m by omega) _ f0 f1]
  have hb : 0 ≤ bitsOf (formOf op) := by rcases bitsOf_cases _ f0 f1 with h | h | h <;> omega
  rw [if_pos hb]
  obtain ⟨x, hx, ex⟩ := modNat ((op % 4294967296) * 67108864)
  obtain ⟨y, hy, ey⟩ := modNat ((a % 4294967296) * 262144)
  obtain ⟨z, hz, ez⟩ := modNat ((b % 4294967296) * 4194304)
  obtain ⟨z', hz', ez'⟩ := modNat ((d % 4294967296) * 4194304)
  by_cases h5 : formOf op = 5
  · simp only [h5, if_true, Option.bind_some, show ((0 : Int) % 4294967296 * 16384) % 4294967296 = 0 from by decide, ex, ey, ez]
    rw [or_swap hx hz hy, or_nat hx hz, or_nat (or_lt hx hz) hy, or_zero (or_lt (or_lt hx hz) hy)]
    split <;> rfl
  · simp only [h5, if_false, Option.bind_some, ex, ey, ez']
    rw [or_swap hx hz' hy]
    split <;> rfl
def rawD (w : Int) : Int := if hasD (formOf (w / 67108864)) = true then w / 4194304 % 16 else 0
def rawA (w : Int) : Int := if hasA (formOf (w / 67108864)) = true then w / 262144 % 16 else 0
def rawB (w : Int) : Int := if formOf (w / 67108864) = 1 then w / 16384 % 16 else if formOf (w / 67108864) = 5 then w / 4194304 % 16 else 0
def rawImm (w : Int) : Int :=
  if formOf (w / 67108864) = 8 then w % 262144 else if formOf (w / 67108864) = 9 then w % 16384
  else if bitsOf (formOf (w / 67108864)) = 14 then (if w % 16384 ≥ 8192 then w % 16384 - 16384 else w % 16384)
  else if bitsOf (formOf (w / 67108864)) = 18 then (if w % 262144 ≥ 131072 then w % 262144 - 262144 else w % 262144) else 0
def E0 : ByteArray := ⟨#[]⟩
def isWord (w : Int) : Bool :=
  decide (0 ≤ w / 67108864 ∧ w / 67108864 ≤ 33) && (insOk (w / 67108864) (rawD w) (rawA w) (rawB w) (rawImm w) E0 && wordOf (w / 67108864) (rawD w) (rawA w) (rawB w) (rawImm w) == w)
theorem wrap_small (x : Int) (h0 : 0 ≤ x) (h1 : x < 9223372036854775808) : wrap64 x = x := by unfold wrap64; omega
theorem field_eq (w c : Int) (hc : 0 < c) (h0 : 0 ≤ w) (h1 : w < 4294967296) : wrap64 (Go.bits .and .u32 (w / c) 15) = w / c % 16 := by
  have h2 : 0 ≤ w / c := Int.ediv_nonneg h0 (by omega)
  have h3 : w / c ≤ w := Int.ediv_le_self c h0
  rw [and15 _ h2 (by omega), wrap_small _ (by omega) (by omega)]
theorem signed14 (w : Int) (h0 : 0 ≤ w) (h1 : w < 4294967296) : word_Signed.f w 14 = some (if w % 16384 ≥ 8192 then w % 16384 - 16384 else w % 16384) := by
  unfold word_Signed.f
  rw [show wrap64 (32 - 14) = 18 from by decide +kernel, if_pos (by decide)]
  congr 1
  have e1 : shl .u32 w 18 = w * 262144 % 4294967296 := by
    unfold shl; rw [IntKind.wrap_u32']; rfl
  have e2 : ∀ x : Int, shr .i32 x 18 = x / 262144 := fun x => rfl
  rw [e1, e2]
  unfold wrap32 wrap64
  split <;> omega
theorem signed18 (w : Int) (h0 : 0 ≤ w) (h1 : w < 4294967296) : word_Signed.f w 18 = some (if w % 262144 ≥ 131072 then w % 262144 - 262144 else w % 262144) := by
  unfold word_Signed.f
  rw [show wrap64 (32 - 18) = 14 from by decide +kernel, if_pos (by decide)]
  congr 1
  have e1 : shl .u32 w 14 = w * 16384 % 4294967296 := by
    unfold shl; rw [IntKind.wrap_u32']; rfl
  have e2 : ∀ x : Int, shr .i32 x 14 = x / 16384 := fun x => rfl
  rw [e1, e2]
  unfold wrap32 wrap64
  split <;> omega
theorem sign14 (x : Int) (h0 : 0 ≤ x) (h1 : x < 16384) : r1_Sign.f x 14 = some (if x ≥ 8192 then x - 16384 else x) := by
  unfold r1_Sign.f
  rw [if_pos (by decide +kernel), show shl .i64 1 (wrap64 (14 - 1)) = 8192 from by decide +kernel, show shl .i64 1 14 = 16384 from by decide +kernel, wrap_small x h0 (by omega)]
  by_cases h : x ≥ 8192
  · rw [if_pos h, if_pos h, if_pos (by decide)]; congr 1; unfold wrap64; omega
  · rw [if_neg h, if_neg h]
theorem sign18 (x : Int) (h0 : 0 ≤ x) (h1 : x < 262144) : r1_Sign.f x 18 = some (if x ≥ 131072 then x - 262144 else x) := by
  unfold r1_Sign.f
  rw [if_pos (by decide +kernel), show shl .i64 1 (wrap64 (18 - 1)) = 131072 from by decide +kernel, show shl .i64 1 18 = 262144 from by decide +kernel, wrap_small x h0 (by omega)]
  by_cases h : x ≥ 131072
  · rw [if_pos h, if_pos h, if_pos (by decide)]; congr 1; unfold wrap64; omega
  · rw [if_neg h, if_neg h]
theorem op_range (w : Int) (h0 : 0 ≤ w) (h1 : w < 4294967296) : 0 ≤ w / 67108864 ∧ w / 67108864 < 64 := by omega
theorem ins_j3 {k : Nat} (hk : 60 ≤ k) (w op d a b imm : Int) (h0 : 0 ≤ op) (h1 : op ≤ 33) :
    bits_Ins.j3 k w op d a b imm E0 = some (if (insOk op d a b imm E0 && wordOf op d a b imm == w) = true then (op, d, a, b, imm, E0, 0) else (0, 0, 0, 0, 0, E0, 8)) := by
  obtain ⟨m, rfl⟩ : ∃ m, k = m + 1 := ⟨k - 1, by omega⟩
  simp only [bits_Ins.j3]
  rw [isa_ins_eq (by omega), pack_eq (by omega) op d a b imm E0 h0 h1]
  simp only [Option.bind_some]
  cases insOk op d a b imm E0
  · simp; rfl
  · by_cases h : wordOf op d a b imm = w <;> simp [h]
    rfl
theorem unword_j4 {k : Nat} (hk : 60 ≤ k) (w op d a b imm : Int) (h0 : 0 ≤ op) (h1 : op ≤ 33) :
    r3_Unword.j4 k w op d a b imm E0 = some (if (insOk op d a b imm E0 && wordOf op d a b imm == w) = true then (op, d, a, b, imm, E0, true) else (0, 0, 0, 0, 0, E0, false)) := by
  obtain ⟨m, rfl⟩ : ∃ m, k = m + 1 := ⟨k - 1, by omega⟩
  simp only [r3_Unword.j4]
  rw [ref_ins_eq (by omega), refword_eq (by omega) op d a b imm E0 h0 h1]
  simp only [Option.bind_some]
  cases insOk op d a b imm E0
  · simp; rfl
  · by_cases h : wordOf op d a b imm = w <;> simp [h]
    rfl
theorem ins_eq {k : Nat} (hk : 70 ≤ k) (w : Int) (h0 : 0 ≤ w) (h1 : w < 4294967296) :
    bits_Ins.f k w = some (if isWord w = true then (w / 67108864, rawD w, rawA w, rawB w, rawImm w, E0, 0) else (0, 0, 0, 0, 0, E0, 8)) := by
  obtain ⟨m, rfl⟩ : ∃ m, k = m + 3 := ⟨k - 3, by omega⟩
  obtain ⟨o0, o1⟩ := op_range w h0 h1
  unfold bits_Ins.f isWord
  rw [wrap_small (w / 67108864) o0 (by omega), isa_is, field_eq w 4194304 (by omega) h0 h1, field_eq w 262144 (by omega) h0 h1, field_eq w 16384 (by omega) h0 h1]
  simp only [Option.bind_some]
  by_cases hop : 0 ≤ w / 67108864 ∧ w / 67108864 ≤ 33
  · obtain ⟨f0, f1⟩ := formOf_range _ hop.1 hop.2
    rw [if_pos (by simp [hop]), shape_eq (by omega) _ hop.1 hop.2]
    simp only [Option.bind_some, isa_hasD _ f0 f1, bits_Ins.j0, isa_hasA (show 10 ≤ m + 2 by omega) _ f0 f1, bits_Ins.j1, bits_Ins.j2, isa_bits (show 10 ≤ m by omega) _ f0 f1, isa_target _ f0 f1, decide_eq_true hop, Bool.true_and]
    have hj := fun d a b imm => ins_j3 (k := m) (by omega) w (w / 67108864) d a b imm hop.1 hop.2
    unfold rawD rawA rawB rawImm
    rw [show (⟨#[]⟩ : ByteArray) = E0 from rfl]
    have hw : wrap64 w = w := wrap_small w h0 (by omega)
    generalize formOf (w / 67108864) = f at *
    rcases form_cases f f0 f1 with rfl | rfl | rfl | rfl | rfl | rfl | rfl | rfl | rfl | rfl <;>
      simp [hasD, hasA, target, bitsOf, hj, low_eq, low14, low18, signed14 w h0 h1, signed18 w h0 h1, hw]
    all_goals
      rw [wrap_small _ (by omega) (by omega)]
  · rw [if_neg (by simp [hop])]
    simp [hop]; rfl
theorem unword_eq {k : Nat} (hk : 70 ≤ k) (w : Int) (h0 : 0 ≤ w) (h1 : w < 4294967296) :
    r3_Unword.f k w = some (if isWord w = true then (w / 67108864, rawD w, rawA w, rawB w, rawImm w, E0, true) else (0, 0, 0, 0, 0, E0, false)) := by
  obtain ⟨m, rfl⟩ : ∃ m, k = m + 4 := ⟨k - 4, by omega⟩
  obtain ⟨o0, o1⟩ := op_range w h0 h1
  unfold r3_Unword.f isWord
  rw [wrap_small (w / 67108864) o0 (by omega), ref_valid, field_eq w 4194304 (by omega) h0 h1, field_eq w 262144 (by omega) h0 h1, field_eq w 16384 (by omega) h0 h1]
  simp only [Option.bind_some]
  by_cases hop : 0 ≤ w / 67108864 ∧ w / 67108864 ≤ 33
  · obtain ⟨f0, f1⟩ := formOf_range _ hop.1 hop.2
    rw [if_pos (by simp [hop]), form_eq _ hop.1 hop.2]
    simp only [Option.bind_some, ref_hasD _ f0 f1, r3_Unword.j0, ref_hasA _ f0 f1, r3_Unword.j1, r3_Unword.j2, r3_Unword.j3, ref_bits (show 10 ≤ m by omega) _ f0 f1, ref_target _ f0 f1, decide_eq_true hop, Bool.true_and]
    have hj := fun d a b imm => unword_j4 (k := m) (by omega) w (w / 67108864) d a b imm hop.1 hop.2
    unfold rawD rawA rawB rawImm
    rw [show (⟨#[]⟩ : ByteArray) = E0 from rfl]
    have e14 : Go.bits .and .u32 w (((shl .u32 1 14) - 1) % 4294967296) = w % 16384 := by
      have := low14 w; unfold low at this; rwa [show w % 4294967296 = w from by omega] at this
    have e18 : Go.bits .and .u32 w (((shl .u32 1 18) - 1) % 4294967296) = w % 262144 := by
      have := low18 w; unfold low at this; rwa [show w % 4294967296 = w from by omega] at this
    have w14 : wrap64 (w % 16384) = w % 16384 := wrap_small _ (by omega) (by omega)
    have w18 : wrap64 (w % 262144) = w % 262144 := wrap_small _ (by omega) (by omega)
    have m14 : w % 16384 % 4294967296 = w % 16384 := by omega
    have m18 : w % 262144 % 4294967296 = w % 262144 := by omega
    have s14 := sign14 (w % 16384) (by omega) (by omega)
    have s18 := sign18 (w % 262144) (by omega) (by omega)
    generalize formOf (w / 67108864) = f at *
    rcases form_cases f f0 f1 with rfl | rfl | rfl | rfl | rfl | rfl | rfl | rfl | rfl | rfl <;>
      simp only [hasD, hasA, target, bitsOf] <;> simp [hj, e14, e18, w14, w18, m14, m18, s14, s18]
  · rw [if_neg (by simp [hop])]
    simp [hop]; rfl
end Go.Proofs.Ytfnchdlgkkdegaa.PAll
