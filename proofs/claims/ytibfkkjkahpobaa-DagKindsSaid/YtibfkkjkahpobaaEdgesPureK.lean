-- the texts that this claim needs, out of this session's and its print's (wip/shrink.py)
import Derived.Test.YtibfkkjkahpobaaAskK
import Derived.Test.YtibfkkjkahpobaaDagBackK
import Derived.Test.YtibfkkjkahpobaaPDagx10K
import Derived.Test.YtibfkkjkahpobaaPDagx13K
import Derived.Test.YtibfkkjkahpobaaPDagx14K
import Derived.Test.YtibfkkjkahpobaaPDagx16K
import Derived.Test.YtibfkkjkahpobaaPDagx19K
import Derived.Test.YtibfkkjkahpobaaPDagx20K
import Derived.Test.YtibfkkjkahpobaaPDagx21K
namespace Go.Proofs.Ytibfkkjkahpobaa.PDag
open Go.RowKit Go.Proofs.YtibfkkjkahpobaaW.PrintWords Go.Proofs.YtibfkkjkahpobaaW.PrintLast Go.Proofs.YtibfkkjkahpobaaW.PrintMore
set_option linter.unusedVariables false
set_option linter.unusedSimpArgs false
theorem eqedges_loop (l : List S51) (hl : l.length ≤ 1000000000) : ∀ (d k i : Nat), i + d = l.length → 1 + d ≤ k → r0_EqEdges.l0 k l l (i : Int) = some true
  | 0, k, i, hi, hk => by
    obtain ⟨k, rfl⟩ : ∃ k', k = k' + 1 := ⟨k - 1, by omega⟩
    unfold r0_EqEdges.l0
    rw [if_neg (by omega)]
  | d + 1, k, i, hi, hk => by
    obtain ⟨k, rfl⟩ : ∃ k', k = k' + 1 := ⟨k - 1, by omega⟩
    unfold r0_EqEdges.l0
    rw [if_pos (by omega), if_pos (by omega), if_pos (by omega), wrap_at (by omega), eqedges_loop l hl d k (i + 1) (by omega) (by omega)]
    simp
theorem eqedges_eq {k : Nat} (l : List S51) (hl : l.length ≤ 1000000) (hk : 2000000 ≤ k) : r0_EqEdges.f k l l = some true := by
  unfold r0_EqEdges.f
  rw [if_pos rfl]
  exact eqedges_loop l (by omega) l.length k 0 (by omega) (by omega)
theorem eqnums_loop (l : List Int) (hl : l.length ≤ 1000000000) : ∀ (d k i : Nat), i + d = l.length → 1 + d ≤ k → r0_EqNumbers.l0 k l l (i : Int) = some true
  | 0, k, i, hi, hk => by
    obtain ⟨k, rfl⟩ : ∃ k', k = k' + 1 := ⟨k - 1, by omega⟩
    unfold r0_EqNumbers.l0
    rw [if_neg (by omega)]
  | d + 1, k, i, hi, hk => by
    obtain ⟨k, rfl⟩ : ∃ k', k = k' + 1 := ⟨k - 1, by omega⟩
    unfold r0_EqNumbers.l0
    rw [if_pos (by omega), if_pos (by omega), if_pos (by omega), if_pos rfl, wrap_at (by omega), eqnums_loop l hl d k (i + 1) (by omega) (by omega)]
theorem eqnums_eq {k : Nat} (l : List Int) (hl : l.length ≤ 1000000) (hk : 2000000 ≤ k) : r0_EqNumbers.f k l l = some true := by
  unfold r0_EqNumbers.f
  rw [if_pos rfl]
  exact eqnums_loop l (by omega) l.length k 0 (by omega) (by omega)
theorem plain_ok {l : List S24} (h : mayL l = true) : l.length ≤ 200 ∧ okA l := by
  unfold mayL allPlain at h
  simp only [Bool.and_eq_true, decide_eq_true_eq, List.all_eq_true] at h
  refine ⟨h.1, fun x hx => ?_⟩
  have := h.2 x hx
  unfold plainI at this
  simp only [Bool.and_eq_true] at this
  exact this.1
theorem of_eq {k : Nat} (l : List S24) (hl : l.length ≤ 1000000) (hk : 60000 ≤ k) : dag_Of.f k l = some (if mayL l = true then (edges l, 0) else ([], 1)) := by
  unfold dag_Of.f
  rw [may_eq l (by omega) (by omega)]
  simp only [Option.bind_some]
  cases h : mayL l with
  | false => rfl
  | true =>
    obtain ⟨h1, h2⟩ := plain_ok h
    rw [own_edges l h1 (okA_L h2) (by omega)]; rfl
theorem heights_eq {k : Nat} (l : List S24) (hl : l.length ≤ 1000000) (hk : 60000 ≤ k) : dag_Heights.f k l = some (if mayL l = true then (heights l, 0) else ([], 1)) := by
  unfold dag_Heights.f
  rw [may_eq l (by omega) (by omega)]
  simp only [Option.bind_some]
  cases h : mayL l with
  | false => rfl
  | true =>
    obtain ⟨h1, h2⟩ := plain_ok h
    rw [own_edges l h1 (okA_L h2) (by omega)]
    simp only [Option.bind_some, if_true]
    rw [high_eq (by omega) l h1 h2]; rfl
theorem wakes_eq {k : Nat} (hk : 1000 ≤ k) : w14_wakes.f k = some true :=
  at_rounds w14_wakes.mono hk (show w14_wakes.f 1000 = some true by kernel_rfl)
end Go.Proofs.Ytibfkkjkahpobaa.PDag
