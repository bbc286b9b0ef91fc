-- the texts that this claim needs, out of this session's and its print's (wip/shrink.py)
import Derived.Test.YtfnchdlgkkdegaaWordPureS
namespace Go.Proofs.Ytfnchdlgkkdegaa.PAll
open Go.RowKit Go.Proofs.YtfnchdlgkkdegaaW.PrintWords Go.Proofs.YtfnchdlgkkdegaaW.PrintLast Go.Proofs.YtfnchdlgkkdegaaW.PrintMore
set_option linter.unusedVariables false
set_option linter.unusedSimpArgs false
theorem sum4 (o x y z : Nat) (ho : o < 64) (hx : x < 16) (hy : y < 16) (hz : z < 16) :
    Go.bits .or .u32 (Go.bits .or .u32 (Go.bits .or .u32 ((o * 67108864 : Nat) : Int) ((x * 4194304 : Nat) : Int)) ((y * 262144 : Nat) : Int)) ((z * 16384 : Nat) : Int) = ((o * 67108864 + x * 4194304 + y * 262144 + z * 16384 : Nat) : Int) := by
  rw [or_nat (by omega) (by omega), nat_join 26 _ _ (by omega) (by omega), or_nat (by omega) (by omega), nat_join 22 _ _ (by omega) (by omega), or_nat (by omega) (by omega), nat_join 18 _ _ (by omega) (by omega)]
theorem sumI (op d a b : Int) (h0 : 0 ≤ op) (h1 : op ≤ 33) (d0 : 0 ≤ d) (d1 : d ≤ 15) (a0 : 0 ≤ a) (a1 : a ≤ 15) (b0 : 0 ≤ b) (b1 : b ≤ 15) :
    Go.bits .or .u32 (Go.bits .or .u32 (Go.bits .or .u32 ((((op) % 4294967296) * 67108864) % 4294967296) ((((d) % 4294967296) * 4194304) % 4294967296)) ((((a) % 4294967296) * 262144) % 4294967296)) ((((b) % 4294967296) * 16384) % 4294967296)
      = op * 67108864 + d * 4194304 + a * 262144 + b * 16384 := by
  obtain ⟨o, rfl⟩ := Int.eq_ofNat_of_zero_le h0
  obtain ⟨x, rfl⟩ := Int.eq_ofNat_of_zero_le d0
  obtain ⟨y, rfl⟩ := Int.eq_ofNat_of_zero_le a0
  obtain ⟨z, rfl⟩ := Int.eq_ofNat_of_zero_le b0
  have := sum4 o x y z (by omega) (by omega) (by omega) (by omega)
  rw [show ((o : Int) % 4294967296 * 67108864) % 4294967296 = ((o * 67108864 : Nat) : Int) from by omega, show ((x : Int) % 4294967296 * 4194304) % 4294967296 = ((x * 4194304 : Nat) : Int) from by omega, show ((y : Int) % 4294967296 * 262144) % 4294967296 = ((y * 262144 : Nat) : Int) from by omega, show ((z : Int) % 4294967296 * 16384) % 4294967296 = ((z * 16384 : Nat) : Int) from by omega, this]
  omega
theorem or14 (s l : Int) (h0 : 0 ≤ s) (h1 : s < 4294967296) (hm : s % 16384 = 0) (l0 : 0 ≤ l) (l1 : l < 16384) : Go.bits .or .u32 s l = s + l := by
  obtain ⟨x, rfl⟩ := Int.eq_ofNat_of_zero_le h0
  obtain ⟨y, rfl⟩ := Int.eq_ofNat_of_zero_le l0
  rw [or_nat (by omega) (by omega), nat_join 14 _ _ (by omega) (by omega)]; omega
theorem or18 (s l : Int) (h0 : 0 ≤ s) (h1 : s < 4294967296) (hm : s % 262144 = 0) (l0 : 0 ≤ l) (l1 : l < 262144) : Go.bits .or .u32 s l = s + l := by
  obtain ⟨x, rfl⟩ := Int.eq_ofNat_of_zero_le h0
  obtain ⟨y, rfl⟩ := Int.eq_ofNat_of_zero_le l0
  rw [or_nat (by omega) (by omega), nat_join 18 _ _ (by omega) (by omega)]; omega
theorem E0_nil : E0.toList = [] := by unfold E0; simp
theorem ins_parts {op d a b imm : Int} {s : ByteArray} (h : insOk op d a b imm s = true) : (0 ≤ op ∧ op ≤ 33) ∧ regOk (hasD (formOf op)) d = true ∧ regOk (hasA (formOf op)) a = true ∧ regOk (hasB (formOf op)) b = true ∧ immOk (formOf op) imm s = true := by
  unfold insOk at h
  simpa only [Bool.and_eq_true, decide_eq_true_eq] using h
theorem reg_parts {has : Bool} {n : Int} (h : regOk has n = true) : 0 ≤ n ∧ n ≤ 15 ∧ (has = false → n = 0) := by
  unfold regOk at h
  cases has with
  | true => simpa using h
  | false => simp at h; subst h; simp
theorem back (op d a b imm : Int) (h : insOk op d a b imm E0 = true) :
    (0 ≤ wordOf op d a b imm ∧ wordOf op d a b imm < 4294967296) ∧ wordOf op d a b imm / 67108864 = op ∧ rawD (wordOf op d a b imm) = d ∧ rawA (wordOf op d a b imm) = a ∧ rawB (wordOf op d a b imm) = b ∧ rawImm (wordOf op d a b imm) = imm := by
  obtain ⟨⟨h0, h1⟩, hd, ha, hb, hi⟩ := ins_parts h
  obtain ⟨d0, d1, d2⟩ := reg_parts hd
  obtain ⟨a0, a1, a2⟩ := reg_parts ha
  obtain ⟨b0, b1, b2⟩ := reg_parts hb
  clear hd ha hb h
  obtain ⟨f0, f1⟩ := formOf_range op h0 h1
  unfold immOk at hi
  rw [E0_nil] at hi
  unfold rawD rawA rawB rawImm
  have hw : ∃ w, w = wordOf op d a b imm := ⟨_, rfl⟩
  obtain ⟨w, hw⟩ := hw
  rw [← hw]
  have key : (0 ≤ w ∧ w < 4294967296) ∧ w / 67108864 = op ∧ (hasD (formOf op) = true → w / 4194304 % 16 = d) ∧ w / 262144 % 16 = a ∧ (formOf op = 1 → w / 16384 % 16 = b) ∧ (formOf op = 5 → w / 4194304 % 16 = b) ∧
      (bitsOf (formOf op) = 14 → w % 16384 = imm % 16384) ∧ (bitsOf (formOf op) = 18 → w % 262144 = imm % 262144) := by
    subst hw
    unfold wordOf
    simp only
    by_cases h5 : formOf op = 5
    · simp only [h5, if_true, bitsOf] at *
      rw [sumI op b a 0 h0 h1 b0 b1 a0 a1 (by omega) (by omega)]
      simp only [show ((5 : Int) = 3 ∨ True ∨ (5 : Int) = 9) = True from by simp, if_true, show ((14 : Int) > 0) = True from by simp, low14]
      rw [or14 _ _ (by omega) (by omega) (by omega) (by omega) (by omega)]
      refine ⟨by omega, by omega, fun h => by simp [hasD] at h, by omega, fun h => by omega, fun _ => by omega, fun _ => by omega, fun h => by omega⟩
    · simp only [h5, if_false]
      rw [sumI op d a b h0 h1 d0 d1 a0 a1 b0 b1]
      have hb' : formOf op ≠ 1 → b = 0 := fun hne => b2 (by simp [hasB, hne, h5])
      rcases bitsOf_cases _ f0 f1 with hz | hz | hz
      · rw [hz, if_neg (by decide)]
        exact ⟨by omega, by omega, fun _ => by omega, by omega, fun _ => by omega, fun h => h.elim, fun h => by omega, fun h => by omega⟩
      · have hn1 : formOf op ≠ 1 := fun e => by rw [e] at hz; exact absurd hz (by decide)
        have := hb' hn1
        rw [hz, if_pos (by decide), low14, or14 _ _ (by omega) (by omega) (by omega) (by omega) (by omega)]
        exact ⟨by omega, by omega, fun _ => by omega, by omega, fun h => absurd h hn1, fun h => h.elim, fun _ => by omega, fun h => by omega⟩
      · have hn1 : formOf op ≠ 1 := fun e => by rw [e] at hz; exact absurd hz (by decide)
        have := hb' hn1
        rw [hz, if_pos (by decide), low18, or18 _ _ (by omega) (by omega) (by omega) (by omega) (by omega)]
        exact ⟨by omega, by omega, fun _ => by omega, by omega, fun h => absurd h hn1, fun h => h.elim, fun h => by omega, fun _ => by omega⟩
  obtain ⟨k0, k1, k2, k3, k4, k5, k6, k7⟩ := key
  refine ⟨k0, k1, ?_⟩
  rw [k1]
  generalize formOf op = f at *
  clear hw k1
  rcases form_cases f f0 f1 with rfl | rfl | rfl | rfl | rfl | rfl | rfl | rfl | rfl | rfl <;>
    simp [hasD, hasA, hasB, target, bitsOf, fit14, fit18] at * <;> refine ⟨?_, ?_, ?_, ?_⟩ <;> first | omega | (split <;> omega)
theorem isWord_back (op d a b imm : Int) (h : insOk op d a b imm E0 = true) : isWord (wordOf op d a b imm) = true := by
  obtain ⟨h0, h1, h2, h3, h4, h5⟩ := back op d a b imm h
  unfold isWord
  rw [h1, h2, h3, h4, h5, h]
  have := (ins_parts h).1
  simp [this]
end Go.Proofs.Ytfnchdlgkkdegaa.PAll
