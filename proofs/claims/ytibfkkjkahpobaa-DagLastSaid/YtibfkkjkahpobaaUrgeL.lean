-- the texts that this claim needs, out of this session's and its print's (wip/shrink.py)
import Derived.Test.YtibfkkjkahpobaaHighL
import Derived.Test.YtibfkkjkahpobaaPDagx7L
set_option linter.unusedSimpArgs false
set_option linter.unusedVariables false
namespace Go.Proofs.Ytibfkkjkahpobaa.PDag
open Go.RowKit Go.Shelf Go.Proofs.YtibfkkjkahpobaaW.PrintWords Go.Proofs.YtibfkkjkahpobaaW.PrintLast Go.Proofs.YtibfkkjkahpobaaW.PrintMore
attribute [local go_sem] Oper.semAt_some
def dag_Urge.step (h : List Int) (x : S51) : Option (List Int) :=
  if 0 ≤ x.f0 ∧ x.f0 < h.length ∧ 0 ≤ x.f1 ∧ x.f1 < h.length then some (h.set x.f0.toNat (min (rd h x.f0) (rd h x.f1))) else none
def dag_Urge.init (k n : Nat) : Nat → List S24 → Option (List Int)
  | _, [] => some []
  | i, x :: xs => (isa_Effect.f k x.f0).bind fun v => (dag_Urge.init k n (i + 1) xs).bind fun r => some ((if v = true then (i : Int) else (n : Int)) :: r)
theorem dag_Urge.init_at (k n : Nat) : ∀ (i : Nat) (l : List S24) (h0 : List Int), dag_Urge.init k n i l = some h0 → h0.length = l.length ∧ ∀ j : Nat, j < l.length → ∃ v, isa_Effect.f k (q24 l j).f0 = some v ∧ rd h0 j = if v = true then ((i + j : Nat) : Int) else (n : Int)
  | i, [], h0, h => by
    simp only [dag_Urge.init, Option.some.injEq] at h
    subst h
    exact ⟨rfl, fun j hj => absurd hj (Nat.not_lt_zero _)⟩
  | i, x :: xs, h0, h => by
    simp only [dag_Urge.init] at h
    obtain ⟨v, hv, h⟩ := Option.bind_eq_some_iff.mp h
    obtain ⟨r, hr, h⟩ := Option.bind_eq_some_iff.mp h
    obtain rfl := Option.some.inj h
    obtain ⟨h1, h2⟩ := dag_Urge.init_at k n (i + 1) xs r hr
    refine ⟨by simp [h1], fun j hj => ?_⟩
    cases j with
    | zero => exact ⟨v, by simpa [q24] using hv, by simp [rd]⟩
    | succ j =>
      obtain ⟨u, h3, h4⟩ := h2 j (by simpa using hj)
      refine ⟨u, by simpa [q24] using h3, ?_⟩
      rw [show i + (j + 1) = i + 1 + j by omega, ← h4]
      simp [rd]
theorem dag_Urge.range : ∀ (es : List S51) (h r : List Int), es.foldlM dag_Urge.step h = some r → (∀ x ∈ es, 0 ≤ x.f0 ∧ x.f0 < h.length ∧ 0 ≤ x.f1 ∧ x.f1 < h.length)
  | [], h, r, _ => by simp
  | x :: es, h, r, hf => by
    rw [List.foldlM_cons] at hf
    obtain ⟨h1, hs, hf⟩ := Option.bind_eq_some_iff.mp hf
    unfold dag_Urge.step at hs
    split at hs
    · rename_i hc
      have h2 := dag_Urge.range es h1 r hf
      have hl : h1.length = h.length := by rw [← Option.some.inj hs]; simp
      rw [hl] at h2
      intro y hy
      rcases List.mem_cons.1 hy with rfl | hy
      · exact hc
      · exact h2 y hy
    · exact absurd hs (by simp)
theorem dag_Urge.init_mono (k n : Nat) : ∀ i l, LeO (dag_Urge.init k n i l) (dag_Urge.init (k + 1) n i l)
  | _, [] => LeO.refl _
  | i, x :: xs => by
    unfold dag_Urge.init
    exact LeO.bind (isa_Effect.mono _ _) (fun _ => LeO.bind (dag_Urge.init_mono k n (i + 1) xs) (fun _ => LeO.refl _))
end Go.Proofs.Ytibfkkjkahpobaa.PDag
