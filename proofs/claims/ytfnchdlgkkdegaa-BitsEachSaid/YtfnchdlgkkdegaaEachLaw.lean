/- BitsEach: the pure statement, and the contract as its row wants it. -/
import Derived.Test.YtfnchdlgkkdegaaAsk
import Derived.Test.YtfnchdlgkkdegaaBackPure
import Derived.Test.YtfnchdlgkkdegaaPAllx13
namespace Go.Proofs.Ytfnchdlgkkdegaa.PAll
open Go.RowKit Go.Proofs.YtfnchdlgkkdegaaW.PrintWords Go.Proofs.YtfnchdlgkkdegaaW.PrintLast Go.Proofs.YtfnchdlgkkdegaaW.PrintMore
set_option linter.unusedVariables false
set_option linter.unusedSimpArgs false

theorem eword_eq {k : Nat} (hk : 60 ≤ k) (op d a b imm : Int) (h : insOk op d a b imm E0 = true) : bits_Word.f k op d a b imm E0 = some (wordOf op d a b imm, 0) := by
  have hop := (ins_parts h).1
  unfold bits_Word.f
  rw [isa_ins_eq (by omega), h]
  simp only [Option.bind_some, if_true]
  rw [if_pos E0_nil, pack_eq (show 20 ≤ k by omega) op d a b imm E0 hop.1 hop.2]; rfl

theorem ewakes_eq {k : Nat} (hk : 100 ≤ k) : sledgelaw4_wakes.f k = some true :=
  at_rounds sledgelaw4_wakes.mono hk (show sledgelaw4_wakes.f 100 = some true by kernel_rfl)

def midD (f c : Int) : Int := if hasD f = true then Int.tmod (wrap64 (c * 7)) 16 else 0
def midA (f c n : Int) : Int := if hasA f = true then Int.tmod (wrap64 ((wrap64 (c + n)) * 5)) 16 else 0
def midB (f c : Int) : Int := if hasB f = true then Int.tmod (wrap64 (c * 3)) 16 else 0
def midImm (f c : Int) : Int :=
  if bitsOf f > 0 then (if target f = true then rd [0, 1, 1023, 2, 77, 512] (Int.tmod c 6)
    else rd [0, 1, wrap64 ((shl .i64 1 (wrap64 (bitsOf f - 1))) - 1), (-1), wrap64 (-(shl .i64 1 (wrap64 (bitsOf f - 1)))), wrap64 (Int.tdiv (shl .i64 1 (wrap64 (bitsOf f - 1))) 2)] (Int.tmod c 6)) else 0

theorem each_ok_imm : ∀ f : Fin 10, ∀ c : Fin 24, immOk (f.val : Int) (midImm f.val c.val) E0 = true ∧ 0 ≤ midD f.val c.val ∧ midD f.val c.val ≤ 15 ∧ 0 ≤ midB f.val c.val ∧ midB f.val c.val ≤ 15 := by
  have hE : (E0.toList = []) = True := by simp [E0_nil]
  unfold immOk
  simp only [hE, if_true]
  decide +kernel

theorem each_ok (op c n : Int) (h0 : 0 ≤ op) (h1 : op ≤ 33) (c0 : 0 ≤ c) (c1 : c < 24) (n0 : 0 ≤ n) (n1 : n ≤ 1000000000000) : insOk op (midD (formOf op) c) (midA (formOf op) c n) (midB (formOf op) c) (midImm (formOf op) c) E0 = true := by
  obtain ⟨f0, f1⟩ := formOf_range op h0 h1
  have h := each_ok_imm ⟨(formOf op).toNat, by omega⟩ ⟨c.toNat, by omega⟩
  simp only [show (((formOf op).toNat : Nat) : Int) = formOf op from by omega, show ((c.toNat : Nat) : Int) = c from by omega] at h
  obtain ⟨hi, hd0, hd1, hb0, hb1⟩ := h
  have ha : regOk (hasA (formOf op)) (midA (formOf op) c n) = true := by
    unfold midA regOk
    cases hasA (formOf op) with
    | false => simp
    | true =>
      simp only [if_true, decide_eq_true_eq]
      have e1 : wrap64 (c + n) = c + n := by unfold wrap64; omega
      have e2 : wrap64 ((c + n) * 5) = (c + n) * 5 := by unfold wrap64; omega
      rw [e1, e2, Int.tmod_eq_emod_of_nonneg (by omega)]; omega
  have hd : regOk (hasD (formOf op)) (midD (formOf op) c) = true := by
    unfold midD regOk at *
    cases hh : hasD (formOf op) with
    | false => simp
    | true => rw [hh] at hd0 hd1; simp only [if_true, decide_eq_true_eq] at *; omega
  have hb : regOk (hasB (formOf op)) (midB (formOf op) c) = true := by
    unfold midB regOk at *
    cases hh : hasB (formOf op) with
    | false => simp
    | true => rw [hh] at hb0 hb1; simp only [if_true, decide_eq_true_eq] at *; omega
  unfold insOk
  simp [h0, h1, ha, hd, hb, hi]

theorem each_l1 (lI : List S35) (lS : List ByteArray) (lW lN : List Int) (lB : List S52) (hB : lB.length ≤ 1000000000000) (op : Int) (h0 : 0 ≤ op) (h1 : op ≤ 33) (K : Nat)
    (hc : ∀ k, K ≤ k → sledgelaw4_BitsEach.l0 k (op + 1) lI lS lW lN lB = some true) :
    ∀ (d k : Nat) (c : Int), 0 ≤ c → c + d = 24 → K + 200 + 10 * d ≤ k → sledgelaw4_BitsEach.l1 k op (formOf op) c lI lS lW lN lB = some true
  | 0, k, c, c0, c1, hk => by
    obtain ⟨m, rfl⟩ : ∃ m, k = m + 1 := ⟨k - 1, by omega⟩
    simp only [sledgelaw4_BitsEach.l1]
    rw [if_neg (by omega), wrapI h0 (by omega)]
    exact hc m (by omega)
  | d + 1, k, c, c0, c1, hk => by
    obtain ⟨m, rfl⟩ : ∃ m, k = m + 6 := ⟨k - 6, by omega⟩
    obtain ⟨f0, f1⟩ := formOf_range op h0 h1
    have hok := each_ok op c lB.length h0 h1 c0 (by omega) (by omega) (by omega)
    have ih := each_l1 lI lS lW lN lB hB op h0 h1 K hc d m (c + 1) (by omega) (by omega) (by omega)
    have hw : wrap64 (c + 1) = c + 1 := wrapI c0 (by omega)
    -- the last step: whatever the instruction, if it may be
    have hj5 : ∀ x1 x2 x3 x4 : Int, insOk op x1 x2 x3 x4 E0 = true → sledgelaw4_BitsEach.j5 (m + 2) op (formOf op) c lI lS lW lN lB op x1 x2 x3 x4 E0 = some true := by
      intro x1 x2 x3 x4 hx
      have hop := (ins_parts hx).1
      simp only [sledgelaw4_BitsEach.j5]
      rw [eword_eq (by omega) _ _ _ _ _ hx]
      simp only [Option.bind_some]
      rw [ins_back (by omega) _ _ _ _ _ hx, ref_ins_eq (by omega), hx, refword_eq (show 20 ≤ m + 1 by omega) op x1 x2 x3 x4 E0 hop.1 hop.2]
      simp [sledgelaw4_num.f, sledgelaw4_BitsEach.j6, hw, ih]
    have h6 : 0 ≤ Int.tmod c 6 ∧ Int.tmod c 6 < 6 := by rw [Int.tmod_eq_emod_of_nonneg c0]; omega
    have hj4 : ∀ x1 x2 x3 : Int, insOk op x1 x2 x3 (midImm (formOf op) c) E0 = true → sledgelaw4_BitsEach.j4 (m + 3) op (formOf op) c lI lS lW lN lB op x1 x2 x3 0 E0 = some true := by
      intro x1 x2 x3 hx
      simp only [sledgelaw4_BitsEach.j4, ref_bits (show 10 ≤ m + 2 by omega) _ f0 f1, Option.bind_some, ref_target _ f0 f1]
      unfold midImm at hx
      rcases bitsOf_cases _ f0 f1 with hz | hz | hz
      · rw [hz] at hx ⊢
        simp only [show ¬ ((0 : Int) > 0) from by decide, if_false] at hx ⊢
        exact hj5 _ _ _ _ hx
      all_goals
        rw [hz] at hx ⊢
        rw [if_pos (by decide)] at hx ⊢
        rw [if_pos (by decide +kernel), if_pos h6.1, if_pos (by simp; omega)]
        cases ht : target (formOf op) with
        | true =>
          rw [ht] at hx
          simp only [if_true] at hx ⊢
          rw [if_pos (by simp; omega)]
          exact hj5 _ _ _ _ hx
        | false =>
          rw [ht] at hx
          simp only [Bool.false_eq_true, if_false] at hx ⊢
          exact hj5 _ _ _ _ hx
    have hj3 : ∀ x1 x2 : Int, insOk op x1 x2 (midB (formOf op) c) (midImm (formOf op) c) E0 = true → sledgelaw4_BitsEach.j3 (m + 4) op (formOf op) c lI lS lW lN lB op x1 x2 0 0 E0 = some true := by
      intro x1 x2 hx
      simp only [sledgelaw4_BitsEach.j3, ref_hasB _ f0 f1, Option.bind_some]
      unfold midB at hx
      cases hb : hasB (formOf op) <;> (rw [hb] at hx; simp only [if_true, Bool.false_eq_true, if_false] at hx ⊢; exact hj4 _ _ _ hx)
    have hj2 : ∀ x1 : Int, insOk op x1 (midA (formOf op) c lB.length) (midB (formOf op) c) (midImm (formOf op) c) E0 = true → sledgelaw4_BitsEach.j2 (m + 5) op (formOf op) c lI lS lW lN lB op x1 0 0 0 E0 = some true := by
      intro x1 hx
      simp only [sledgelaw4_BitsEach.j2, ref_hasA _ f0 f1, Option.bind_some]
      unfold midA at hx
      cases hb : hasA (formOf op) <;> (rw [hb] at hx; simp only [if_true, Bool.false_eq_true, if_false] at hx ⊢; exact hj3 _ _ hx)
    simp only [sledgelaw4_BitsEach.l1]
    rw [if_pos (by omega), ref_hasD _ f0 f1]
    simp only [Option.bind_some]
    unfold midD at hok
    cases hb : hasD (formOf op) <;> (rw [hb] at hok; simp only [if_true, Bool.false_eq_true, if_false] at hok ⊢; exact hj2 _ hok)

set_option maxRecDepth 20000 in
theorem each_l0 (lI : List S35) (lS : List ByteArray) (lW lN : List Int) (lB : List S52) (hB : lB.length ≤ 1000000000000) :
    ∀ (d k : Nat) (op : Int), 0 ≤ op → op + d = 34 → 500 + 500 * d ≤ k → sledgelaw4_BitsEach.l0 k op lI lS lW lN lB = some true
  | 0, k, op, h0, h1, hk => by
    obtain ⟨m, rfl⟩ : ∃ m, k = m + 1 := ⟨k - 1, by omega⟩
    simp only [sledgelaw4_BitsEach.l0]
    rw [if_neg (by omega), ewakes_eq (by omega)]; rfl
  | d + 1, k, op, h0, h1, hk => by
    obtain ⟨m, rfl⟩ : ∃ m, k = m + 1 := ⟨k - 1, by omega⟩
    simp only [sledgelaw4_BitsEach.l0]
    rw [if_pos (by omega), form_eq op h0 (by omega)]
    simp only [Option.bind_some]
    have hc : ∀ k, 500 + 500 * d ≤ k → sledgelaw4_BitsEach.l0 k (op + 1) lI lS lW lN lB = some true := fun k hk => each_l0 lI lS lW lN lB hB d k (op + 1) (by omega) (by omega) hk
    have h33 : op ≤ 33 := by omega
    have hm : 500 + 500 * d + 200 + 10 * 24 ≤ m := by omega
    clear hk
    exact each_l1 lI lS lW lN lB hB op h0 h33 (500 + 500 * d) hc 24 m 0 (by decide) (by decide) hm

set_option maxRecDepth 20000 in
theorem each_pure (k : Nat) (hk : 18000 ≤ k) (lI : List S35) (lS : List ByteArray) (lW lN : List Int) (lB : List S52) (hB : lB.length ≤ 1000000000000) : sledgelaw4_BitsEach.f k lI lS lW lN lB = some true := by
  unfold sledgelaw4_BitsEach.f
  exact each_l0 lI lS lW lN lB hB 34 k 0 (by omega) (by omega) (by omega)

set_option maxRecDepth 20000 in
theorem each_walk : LawWalk 4 := by
  intro A0 c0 lI A1 c1 lS A2 c2 lW A3 c3 lN A4 c4 lB w g0 b0 g1 b1 g2 b2 g3 b3 g4 b4 hin
  have hB := hin.2.2.2.2.1
  exact sledgelaw4_BitsEach.calls 20000 A0 c0 lI A1 c1 lS A2 c2 lW A3 c3 lN A4 c4 lB true w g0 b0 g1 b1 g2 b2 g3 b3 g4 b4 (each_pure 20000 (by omega) lI lS lW lN lB (by omega))
end Go.Proofs.Ytfnchdlgkkdegaa.PAll
