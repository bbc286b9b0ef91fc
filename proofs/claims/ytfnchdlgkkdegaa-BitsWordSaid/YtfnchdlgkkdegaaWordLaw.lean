/- BitsWord: the pure statement, and the contract as its row wants it. -/
import Derived.Test.YtfnchdlgkkdegaaAsk
import Derived.Test.YtfnchdlgkkdegaaWordPure
import Derived.Test.YtfnchdlgkkdegaaPAllx12
namespace Go.Proofs.Ytfnchdlgkkdegaa.PAll
open Go.RowKit Go.Proofs.YtfnchdlgkkdegaaW.PrintWords Go.Proofs.YtfnchdlgkkdegaaW.PrintLast Go.Proofs.YtfnchdlgkkdegaaW.PrintMore
set_option linter.unusedVariables false
set_option linter.unusedSimpArgs false

def U32 (x : Int) : Prop := 0 ≤ x ∧ x < 4294967296
theorem u32_of {x : Int} (h : IntOk .u32 x) : U32 x := by
  unfold IntOk at h
  have := bounds_u32 h
  unfold U32; omega

theorem word_eq {k : Nat} (hk : 60 ≤ k) (op d a b imm : Int) (s : ByteArray) :
    bits_Word.f k op d a b imm s = some (if insOk op d a b imm s = true then (if s.toList = [] then (wordOf op d a b imm, 0) else (0, 6)) else (0, 1)) := by
  unfold bits_Word.f
  rw [isa_ins_eq (by omega)]
  simp only [Option.bind_some]
  cases h : insOk op d a b imm s with
  | false => simp
  | true =>
    have hop : 0 ≤ op ∧ op ≤ 33 := by
      unfold insOk at h
      simp only [Bool.and_eq_true, decide_eq_true_eq] at h
      exact h.1
    simp only [if_true, pack_eq (show 20 ≤ k by omega) op d a b imm s hop.1 hop.2, Option.bind_some]
    split <;> rfl

theorem word_range (op d a b imm : Int) (h : insOk op d a b imm E0 = true ∨ True) : U32 (wordOf op d a b imm) := by
  unfold wordOf
  simp only
  obtain ⟨x, hx, ex⟩ := modNat ((op % 4294967296) * 67108864)
  obtain ⟨y, hy, ey⟩ := modNat ((if formOf op = 5 then b else d) % 4294967296 * 4194304)
  obtain ⟨z, hz, ez⟩ := modNat ((a % 4294967296) * 262144)
  obtain ⟨u, hu, eu⟩ := modNat ((if formOf op = 5 then 0 else b) % 4294967296 * 16384)
  rw [ex, ey, ez, eu, or_nat hx hy, or_nat (or_lt hx hy) hz, or_nat (or_lt (or_lt hx hy) hz) hu]
  have hall := or_lt (or_lt (or_lt hx hy) hz) hu
  split
  · have hl : ∃ n : Nat, n < 4294967296 ∧ low imm (bitsOf (formOf op)) = (n : Int) := by
      unfold low
      obtain ⟨n, hn, en⟩ := modNat imm
      obtain ⟨m, hm, em⟩ := modNat ((shl .u32 1 (bitsOf (formOf op))) - 1)
      rw [en, em, u32_and_nat n m hn hm]
      exact ⟨_, Nat.lt_of_le_of_lt Nat.and_le_left hn, rfl⟩
    obtain ⟨n, hn, en⟩ := hl
    rw [en, or_nat hall hn]
    have := or_lt hall hn
    unfold U32; omega
  · unfold U32; omega

theorem wakes_eq {k : Nat} (hk : 100 ≤ k) : sledgelaw4_wakes.f k = some true :=
  at_rounds sledgelaw4_wakes.mono hk (show sledgelaw4_wakes.f 100 = some true by kernel_rfl)

theorem num_eq (e : Int) : sledgelaw4_num.f e = some e := rfl

/-- The second loop: whatever words: the program's instruction is the page's. -/
theorem word_l2 (xs : List Int) (hx : ∀ x ∈ xs, U32 x) (hl : xs.length ≤ 1000000) : ∀ (d k : Nat) (i : Int), 0 ≤ i → i + d = xs.length → 2 * d + 102 ≤ k → sledgelaw4_BitsWord.l2 k xs i = some true
  | 0, k, i, h0, h1, hk => by
    obtain ⟨m, rfl⟩ : ∃ m, k = m + 1 := ⟨k - 1, by omega⟩
    simp only [sledgelaw4_BitsWord.l2]
    rw [if_neg (by omega), wakes_eq (by omega)]; rfl
  | d + 1, k, i, h0, h1, hk => by
    obtain ⟨m, rfl⟩ : ∃ m, k = m + 2 := ⟨k - 2, by omega⟩
    have hlt : i.toNat < xs.length := by omega
    have hr : U32 (rd xs i) := by
      unfold rd
      rw [List.getD_eq_getElem?_getD, List.getElem?_eq_getElem hlt]
      exact hx _ (List.getElem_mem hlt)
    simp only [sledgelaw4_BitsWord.l2]
    rw [if_pos (by omega), if_pos h0, ins_eq (by omega) _ hr.1 hr.2, unword_eq (by omega) _ hr.1 hr.2]
    simp only [Option.bind_some, num_eq]
    have ih := word_l2 xs hx hl d m (i + 1) (by omega) (by omega) (by omega)
    have hw : wrap64 (i + 1) = i + 1 := wrapI h0 (by omega)
    cases isWord (rd xs i) with
    | true => simp [sledgelaw4_BitsWord.j6, hw, ih]
    | false => simp [sledgelaw4_BitsWord.j6, hw, ih]

/-- A word with each of its bits turned. -/
theorem word_l1 (x4 x6 x7 x8 w : Int) (lI : List S35) (lS : List ByteArray) (lW lN : List Int) (lB : List S52) (hw : U32 w) (K L : Nat) (hL : L ≤ 1000000)
    (hc : ∀ (ys : List Int) (k : Nat), (∀ x ∈ ys, U32 x) → ys.length = L → K ≤ k → sledgelaw4_BitsWord.j4 k ys x4 x6 x7 x8 w lI lS lW lN lB = some true) :
    ∀ (d k : Nat) (j : Int) (xs : List Int), 0 ≤ j → j + d = 32 → (∀ x ∈ xs, U32 x) → xs.length + d = L → K + d + 1 ≤ k → sledgelaw4_BitsWord.l1 k xs x4 x6 x7 x8 w j lI lS lW lN lB = some true
  | 0, k, j, xs, h0, h1, hx, hl, hk => by
    obtain ⟨m, rfl⟩ : ∃ m, k = m + 1 := ⟨k - 1, by omega⟩
    simp only [sledgelaw4_BitsWord.l1]
    rw [if_neg (by omega)]
    exact hc xs m hx (by omega) (by omega)
  | d + 1, k, j, xs, h0, h1, hx, hl, hk => by
    obtain ⟨m, rfl⟩ : ∃ m, k = m + 1 := ⟨k - 1, by omega⟩
    simp only [sledgelaw4_BitsWord.l1]
    rw [if_pos (by omega), if_pos h0, if_pos (by omega), wrapI h0 (by omega)]
    refine word_l1 x4 x6 x7 x8 w lI lS lW lN lB hw K L hL hc d m (j + 1) _ (by omega) (by omega) ?_ (by simp; omega) (by omega)
    intro x hxm
    rcases List.mem_append.1 hxm with h | h
    · exact hx x h
    · obtain rfl := List.mem_singleton.1 h
      obtain ⟨n, hn, en⟩ : ∃ n : Nat, n < 4294967296 ∧ w = (n : Int) := ⟨w.toNat, by unfold U32 at hw; omega, by unfold U32 at hw; omega⟩
      obtain ⟨u, hu, eu⟩ : ∃ n : Nat, n < 4294967296 ∧ shl .u32 1 j = (n : Int) := by
        unfold shl; rw [IntKind.wrap_u32']; exact modNat _
      rw [en, eu, u32_xor_nat n u hn hu]
      have := Nat.xor_lt_two_pow (n := 32) hn hu
      unfold U32; omega

/-- The first loop. -/
theorem word_l0 (lI : List S35) (lS : List ByteArray) (lW lN : List Int) (lB : List S52) (hI : lI.length ≤ 4000000000000) :
    ∀ (d k : Nat) (i : Int) (xs : List Int), 0 ≤ i → i + d = 20 → (∀ x ∈ xs, U32 x) → xs.length ≤ 20 + 32 * i → 2000 + 200 * d ≤ k → sledgelaw4_BitsWord.l0 k xs i lI lS lW lN lB = some true
  | 0, k, i, xs, h0, h1, hx, hl, hk => by
    obtain ⟨m, rfl⟩ : ∃ m, k = m + 2 := ⟨k - 2, by omega⟩
    simp only [sledgelaw4_BitsWord.l0, sledgelaw4_BitsWord.j2]
    have h2 := word_l2 xs hx (by omega) xs.length m 0 (by omega) (by omega) (by omega)
    have h20 : decide (i < 20) = false := decide_eq_false (by omega)
    split <;> simp [h20, h2]
  | d + 1, k, i, xs, h0, h1, hx, hl, hk => by
    obtain ⟨m, rfl⟩ : ∃ m, k = m + 2 := ⟨k - 2, by omega⟩
    by_cases hi : i < (lI.length : Int)
    · simp only [sledgelaw4_BitsWord.l0, sledgelaw4_BitsWord.j2]
      rw [if_pos hi, decide_eq_true (show i < 20 by omega), if_pos rfl, if_pos h0, if_pos hi]
      generalize rd_T35 lI i = x
      rw [word_eq (by omega), ref_ins_eq (by omega)]
      simp only [Option.bind_some]
      have ih := fun ys k => word_l0 lI lS lW lN lB hI d k (i + 1) ys (by omega) (by omega)
      have hw : wrap64 (i + 1) = i + 1 := wrapI h0 (by omega)
      have hj4 : ∀ (ys : List Int) (k : Nat) (u e : Int), (∀ x ∈ ys, U32 x) → ys.length ≤ 20 + 32 * (i + 1) → 2001 + 200 * d ≤ k → sledgelaw4_BitsWord.j4 k ys i u e e u lI lS lW lN lB = some true := by
        intro ys k u e hy hl2 hk2
        obtain ⟨m, rfl⟩ : ∃ m, k = m + 1 := ⟨k - 1, by omega⟩
        simp only [sledgelaw4_BitsWord.j4, num_eq, Option.bind_some]
        simp only [if_true, hw]
        exact ih ys m hy hl2 (by omega)
      cases hv : insOk x.f0 x.f1 x.f2 x.f3 x.f4 x.f5 with
      | false =>
        simp only [Bool.false_eq_true, if_false]
        exact hj4 xs m 0 1 hx (by omega) (by omega)
      | true =>
        simp only [if_true]
        by_cases hs : x.f5.toList = []
        · have hop : 0 ≤ x.f0 ∧ x.f0 ≤ 33 := by
            unfold insOk at hv
            simp only [Bool.and_eq_true, decide_eq_true_eq] at hv
            exact hv.1
          simp only [hs, if_true, refword_eq (show 20 ≤ m by omega) x.f0 x.f1 x.f2 x.f3 x.f4 x.f5 hop.1 hop.2, Option.bind_some]
          refine word_l1 i _ 0 0 (wordOf x.f0 x.f1 x.f2 x.f3 x.f4) lI lS lW lN lB (word_range _ _ _ _ _ (.inr trivial)) (2001 + 200 * d) (xs.length + 32) (by omega) ?_ 32 m 0 xs (by omega) (by omega) hx rfl (by omega)
          intro ys k hy hl2 hk2
          exact hj4 ys k _ 0 hy (by omega) hk2
        · simp only [hs, if_false]
          exact hj4 xs m 0 6 hx (by omega) (by omega)
    · simp only [sledgelaw4_BitsWord.l0, sledgelaw4_BitsWord.j2]
      rw [if_neg hi]
      simp only [Bool.false_eq_true, if_false]
      exact word_l2 xs hx (by omega) xs.length m 0 (by omega) (by omega) (by omega)

theorem word_pure (lI : List S35) (lS : List ByteArray) (lW lN : List Int) (lB : List S52) (h : InAsk lI lS lW lN lB) : sledgelaw4_BitsWord.f 7000 lI lS lW lN lB = some true := by
  obtain ⟨⟨hI, _⟩, _, ⟨hW, hW2⟩, _⟩ := h
  have hI' : lI.length ≤ 4000000000000 := by omega
  have hy : ∀ x ∈ ([0, 1, 4294967295] ++ lW : List Int), U32 x := by
    intro x hx
    rcases List.mem_append.1 hx with h | h
    · simp at h; unfold U32; omega
    · exact u32_of (hW2 x h)
  unfold sledgelaw4_BitsWord.f
  simp only [Option.bind_some]
  rw [if_pos (by simp; omega)]
  by_cases h20 : (([0, 1, 4294967295] ++ lW : List Int).length : Int) > 20
  · rw [if_pos h20, if_pos (by omega)]
    simp only [sledgelaw4_BitsWord.j0]
    refine word_l0 lI lS lW lN lB hI' 20 _ 0 _ (by omega) (by omega) ?_ ?_ (by omega)
    · intro x hx; exact hy x (List.mem_of_mem_take hx)
    · rw [List.length_take]; omega
  · rw [if_neg h20]
    simp only [sledgelaw4_BitsWord.j0]
    exact word_l0 lI lS lW lN lB hI' 20 _ 0 _ (by omega) (by omega) hy (by omega) (by omega)

theorem word_walk : LawWalk 3 := by
  intro A0 c0 lI A1 c1 lS A2 c2 lW A3 c3 lN A4 c4 lB w g0 b0 g1 b1 g2 b2 g3 b3 g4 b4 hin
  exact sledgelaw4_BitsWord.calls 7000 A0 c0 lI A1 c1 lS A2 c2 lW A3 c3 lN A4 c4 lB true w g0 b0 g1 b1 g2 b2 g3 b3 g4 b4 (word_pure _ _ _ _ _ hin)
end Go.Proofs.Ytfnchdlgkkdegaa.PAll
