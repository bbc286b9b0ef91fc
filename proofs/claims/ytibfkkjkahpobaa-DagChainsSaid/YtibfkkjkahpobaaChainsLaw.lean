/- DagChains: the pure statement, and the contract as its row wants it. -/
import Derived.Test.YtibfkkjkahpobaaAsk
import Derived.Test.YtibfkkjkahpobaaPDagx15
namespace Go.Proofs.Ytibfkkjkahpobaa.PDag
open Go.RowKit Go.Proofs.YtibfkkjkahpobaaW.PrintWords Go.Proofs.YtibfkkjkahpobaaW.PrintLast Go.Proofs.YtibfkkjkahpobaaW.PrintMore
set_option linter.unusedVariables false
set_option linter.unusedSimpArgs false

/-- Of what came in the law asks how many cycles there are alone, and of that the rest by seven. -/
theorem chains_same (x3 : List Int) (h3 : x3.length = 7) (lI lI' : List S24) (a b c d e a' b' c' d' e' : Int) (s s' : ByteArray) (lN lN' : List Int) (hm : lN.length % 7 = lN'.length % 7) (h1 : lN.length ≤ 1000000000000000) (h2 : lN'.length ≤ 1000000000000000) :
    ∀ k, (∀ x4 x5 x6, 0 ≤ x6 → x6 ≤ 20 → sledgelaw14_DagChains.l0 k x3 x4 x5 x6 lI a b c d e s lN = sledgelaw14_DagChains.l0 k x3 x4 x5 x6 lI' a' b' c' d' e' s' lN') ∧
      (∀ x4 x5 x6 f, 0 ≤ x6 → x6 < 20 → sledgelaw14_DagChains.j1 k x3 x4 x5 x6 f lI a b c d e s lN = sledgelaw14_DagChains.j1 k x3 x4 x5 x6 f lI' a' b' c' d' e' s' lN')
  | 0 => ⟨fun _ _ _ _ _ => by simp [sledgelaw14_DagChains.l0], fun _ _ _ _ _ _ => by simp [sledgelaw14_DagChains.j1]⟩
  | k + 1 => by
    obtain ⟨ih0, ih1⟩ := chains_same x3 h3 lI lI' a b c d e a' b' c' d' e' s s' lN lN' hm h1 h2 k
    refine ⟨fun x4 x5 x6 hx0 hx1 => ?_, fun x4 x5 x6 f hx0 hx1 => ?_⟩
    · unfold sledgelaw14_DagChains.l0
      by_cases hx : x6 < 20
      · rw [if_pos hx, if_pos hx]
        have e1 : wrap64 (x6 * 3) = x6 * 3 := by unfold wrap64; omega
        have e2 : wrap64 (x6 * 3 + (lN.length : Int)) = x6 * 3 + (lN.length : Int) := by unfold wrap64; omega
        have e3 : wrap64 (x6 * 3 + (lN'.length : Int)) = x6 * 3 + (lN'.length : Int) := by unfold wrap64; omega
        have hi : Int.tmod (wrap64 (wrap64 (x6 * 3) + (lN.length : Int))) (x3.length : Int) = Int.tmod (wrap64 (wrap64 (x6 * 3) + (lN'.length : Int))) (x3.length : Int) := by
          rw [e1, e2, e3, h3, Int.tmod_eq_emod_of_nonneg (by omega), Int.tmod_eq_emod_of_nonneg (by omega)]; omega
        have hj : ∀ x4 x5 f, sledgelaw14_DagChains.j1 k x3 x4 x5 x6 f lI a b c d e s lN = sledgelaw14_DagChains.j1 k x3 x4 x5 x6 f lI' a' b' c' d' e' s' lN' := fun x4 x5 f => ih1 x4 x5 x6 f hx0 hx
        simp only [hi, hj]
      · rw [if_neg hx, if_neg hx]
    · unfold sledgelaw14_DagChains.j1
      have hw : wrap64 (x6 + 1) = x6 + 1 := by unfold wrap64; omega
      have hl := ih0 x4 x5 (x6 + 1) (by omega) (by omega)
      simp only [hw, hl]

def chainsAt (r : Nat) : Option Bool := sledgelaw14_DagChains.l0 1000 [1, 14, 16, 20, 18, 12, 17] [] 0 0 [] 0 0 0 0 0 ⟨#[]⟩ (List.replicate r 0)
theorem chains0 : chainsAt 0 = some true := by kernel_rfl
theorem chains1 : chainsAt 1 = some true := by kernel_rfl
theorem chains2 : chainsAt 2 = some true := by kernel_rfl
theorem chains3 : chainsAt 3 = some true := by kernel_rfl
theorem chains4 : chainsAt 4 = some true := by kernel_rfl
theorem chains5 : chainsAt 5 = some true := by kernel_rfl
theorem chains6 : chainsAt 6 = some true := by kernel_rfl

theorem chains_true (lI : List S24) (x : S24) (lN : List Int) (h : lN.length * 8 ≤ 140737488351232) : sledgelaw14_DagChains.f 1000 lI x.f0 x.f1 x.f2 x.f3 x.f4 x.f5 lN = some true := by
  unfold sledgelaw14_DagChains.f
  rw [(chains_same [1, 14, 16, 20, 18, 12, 17] rfl lI [] x.f0 x.f1 x.f2 x.f3 x.f4 0 0 0 0 0 x.f5 ⟨#[]⟩ lN (List.replicate (lN.length % 7) 0) (by simp) (by omega) (by simp; omega) 1000).1 [] 0 0 (by omega) (by omega)]
  have h7 : lN.length % 7 = 0 ∨ lN.length % 7 = 1 ∨ lN.length % 7 = 2 ∨ lN.length % 7 = 3 ∨ lN.length % 7 = 4 ∨ lN.length % 7 = 5 ∨ lN.length % 7 = 6 := by omega
  rcases h7 with e | e | e | e | e | e | e <;> rw [e]
  · exact chains0
  · exact chains1
  · exact chains2
  · exact chains3
  · exact chains4
  · exact chains5
  · exact chains6

/-- The law's contract: true, for every argument. -/
theorem chains_walk : LawWalk 4 := by
  intro A0 c0 lI x A1 c1 lN w g0 b0 g1 b1 hin
  exact sledgelaw14_DagChains.calls 1000 A0 c0 lI x.f0 x.f1 x.f2 x.f3 x.f4 x.f5 A1 c1 lN true w g0 b0 g1 b1 (chains_true lI x lN hin.2.2.1)

end Go.Proofs.Ytibfkkjkahpobaa.PDag
