-- the texts that this claim needs, out of this session's and its print's (wip/shrink.py)
import Derived.Test.YtibfkkjkahpobaaAskL
import Derived.Test.YtibfkkjkahpobaaDagBackL
import Derived.Test.YtibfkkjkahpobaaPDagx10L
import Derived.Test.YtibfkkjkahpobaaPDagx13L
import Derived.Test.YtibfkkjkahpobaaPDagx14L
import Derived.Test.YtibfkkjkahpobaaPDagx16L
import Derived.Test.YtibfkkjkahpobaaPDagx19L
import Derived.Test.YtibfkkjkahpobaaPDagx20L
import Derived.Test.YtibfkkjkahpobaaPDagx21L
namespace Go.Proofs.Ytibfkkjkahpobaa.PDag
open Go.RowKit Go.Proofs.YtibfkkjkahpobaaW.PrintWords Go.Proofs.YtibfkkjkahpobaaW.PrintLast Go.Proofs.YtibfkkjkahpobaaW.PrintMore
set_option linter.unusedVariables false
set_option linter.unusedSimpArgs false
theorem eqnums_loop (l : List Int) (hl : l.length ≤ 1000000000) : ∀ (d k i : Nat), i + d = l.length → 1 + d ≤ k → r0_EqNumbers.l0 k l l (i : Int) = some true
  | 0, k, i, hi, hk => by
    obtain ⟨k, rfl⟩ : ∃ k', k = k' + 1 := ⟨k - 1, by omega⟩
    unfold r0_EqNumbers.l0
    rw [if_neg (by omega)]
  | d + 1, k, i, hi, hk => by
    obtain ⟨k, rfl⟩ : ∃ k', k = k' + 1 := ⟨k - 1, by omega⟩
    unfold r0_EqNumbers.l0
    rw [if_pos (by omega), if_pos (by omega), if_pos (by omega), if_pos rfl, wrap_at (by omega), eqnums_loop l hl d k (i + 1) (by omega) (by omega)]
theorem eqnums_eq {k : Nat} (l : List Int) (hl : l.length ≤ 1000000) (hk : 2000000 ≤ k) : r0_EqNumbers.f k l l = some true := by
  unfold r0_EqNumbers.f
  rw [if_pos rfl]
  exact eqnums_loop l (by omega) l.length k 0 (by omega) (by omega)
theorem plain_ok {l : List S24} (h : mayL l = true) : l.length ≤ 200 ∧ okA l := by
  unfold mayL allPlain at h
  simp only [Bool.and_eq_true, decide_eq_true_eq, List.all_eq_true] at h
  refine ⟨h.1, fun x hx => ?_⟩
  have := h.2 x hx
  unfold plainI at this
  simp only [Bool.and_eq_true] at this
  exact this.1
theorem wakes_eq {k : Nat} (hk : 1000 ≤ k) : w14_wakes.f k = some true :=
  at_rounds w14_wakes.mono hk (show w14_wakes.f 1000 = some true by kernel_rfl)
def rowsOf (lI r : List S24) : List (List S24) := [lI, r, r.take (r.length / 2), []]
theorem rows_end {k : Nat} (lI acc : List S24) (i : Int) (a b c d e : Int) (s : ByteArray) (lN : List Int) (h : acc.length ≤ 1000) : w14_rows.j1 (k + 1) acc i false lI a b c d e s lN = some (rowsOf lI acc) := by
  have e1 : wrap64 ((acc.length : Int) / 2) = ((acc.length / 2 : Nat) : Int) := by unfold wrap64; omega
  rw [w14_rows.j1, if_neg (by decide), e1, if_pos (by omega), if_pos (by omega), Int.toNat_natCast]
  rfl
theorem rows_loop (lI : List S24) (hl : lI.length ≤ 1000000) (a b c d e : Int) (s : ByteArray) (lN : List Int) : ∀ (n k i : Nat) (acc : List S24), i + n = lI.length → acc.length ≤ 40 → 800 + 2 * n ≤ k →
    ∃ r, r.length ≤ 40 ∧ w14_rows.l0 k acc (i : Int) lI a b c d e s lN = some (rowsOf lI r)
  | 0, k, i, acc, hi, ha, hk => by
    obtain ⟨k, rfl⟩ : ∃ k', k = k' + 1 + 1 := ⟨k - 2, by omega⟩
    refine ⟨acc, ha, ?_⟩
    rw [w14_rows.l0, if_neg (by omega), rows_end _ _ _ _ _ _ _ _ _ _ (by omega)]
  | n + 1, k, i, acc, hi, ha, hk => by
    obtain ⟨k, rfl⟩ : ∃ k', k = k' + 1 + 1 := ⟨k - 2, by omega⟩
    rw [w14_rows.l0, if_pos (by omega)]
    by_cases h40 : acc.length < 40
    · rw [show decide ((acc.length : Int) < 40) = true from decide_eq_true (by omega), w14_rows.j1, if_pos rfl, wrap_at (by omega), if_pos (by omega), if_pos (by omega), if_pos (by omega)]
      rw [straight_eq _ (by simp; omega) (by omega), Option.bind_some]
      cases mayL (List.drop ((i : Int)).toNat (List.take (((i + 1 : Nat) : Int)).toNat lI)) with
      | true =>
        rw [if_pos rfl, if_pos (by omega), if_pos (by omega)]
        exact rows_loop lI hl a b c d e s lN n k (i + 1) _ (by omega) (by simp; omega) (by omega)
      | false =>
        rw [if_neg (by decide)]
        exact rows_loop lI hl a b c d e s lN n k (i + 1) _ (by omega) ha (by omega)
    · rw [show decide ((acc.length : Int) < 40) = false from decide_eq_false (by omega)]
      exact ⟨acc, ha, rows_end _ _ _ _ _ _ _ _ _ _ (by omega)⟩
theorem rows_eq {k : Nat} (lI : List S24) (hl : lI.length ≤ 1000000) (a b c d e : Int) (s : ByteArray) (lN : List Int) (hk : 3000000 ≤ k) : ∃ r, r.length ≤ 40 ∧ w14_rows.f k lI a b c d e s lN = some (rowsOf lI r) := by
  unfold w14_rows.f
  exact rows_loop lI hl a b c d e s lN lI.length k 0 [] (by omega) (by simp) (by omega)
theorem weight_loop (lI : List S24) (hl : lI.length ≤ 10000000000000) (hs : ∀ x ∈ lI, StrOk x.f5) : ∀ (n k i : Nat) (v : Int), i + n = lI.length → (lI.length : Int) ≤ v → v ≤ 1000000000000000 → 1 + n ≤ k →
    ∃ t : Int, (lI.length : Int) ≤ t ∧ t ≤ 1000000000000000 ∧ w0_CodesWeight.l0 k lI v (i : Int) = some t
  | 0, k, i, v, hi, h1, h2, hk => by
    obtain ⟨k, rfl⟩ : ∃ k', k = k' + 1 := ⟨k - 1, by omega⟩
    refine ⟨v, h1, h2, ?_⟩
    rw [w0_CodesWeight.l0, if_neg (by omega)]
  | n + 1, k, i, v, hi, h1, h2, hk => by
    obtain ⟨k, rfl⟩ : ∃ k', k = k' + 1 := ⟨k - 1, by omega⟩
    have hlt : i < lI.length := by omega
    rw [w0_CodesWeight.l0, if_pos (by omega)]
    by_cases hv : v < 1048576
    · have hz := hs lI[i] (List.getElem_mem hlt)
      unfold StrOk at hz
      have e1 : wrap64 (((lI[i].f5.size : Nat) : Int) / 8) = ((lI[i].f5.size / 8 : Nat) : Int) := by unfold wrap64; omega
      have e2 : wrap64 (v + ((lI[i].f5.size / 8 : Nat) : Int)) = v + ((lI[i].f5.size / 8 : Nat) : Int) := by unfold wrap64; omega
      rw [if_pos hv, if_pos (by omega), rd_at lI i hlt, wrap_at (by omega), e1, e2]
      exact weight_loop lI hl hs n k (i + 1) _ (by omega) (by omega) (by omega) (by omega)
    · rw [if_neg hv]
      exact ⟨v, h1, h2, rfl⟩
theorem rd_rows (lI r : List S24) : rd_L5 (rowsOf lI r) ((0 : Nat) : Int) = lI ∧ rd_L5 (rowsOf lI r) ((1 : Nat) : Int) = r ∧ rd_L5 (rowsOf lI r) ((2 : Nat) : Int) = r.take (r.length / 2) ∧ rd_L5 (rowsOf lI r) ((3 : Nat) : Int) = [] := ⟨rfl, rfl, rfl, rfl⟩
end Go.Proofs.Ytibfkkjkahpobaa.PDag
