-- the texts that this claim needs, out of this session's and its print's (wip/shrink.py)
import Derived.Test.YtibfkkjkahpobaaDagPureL
import Derived.Test.YtibfkkjkahpobaaHighL
import Derived.Test.YtibfkkjkahpobaaPDagx14L
import Derived.Test.YtibfkkjkahpobaaPDagx20L
import Derived.Test.YtibfkkjkahpobaaUrgeL
set_option linter.unusedSimpArgs false
set_option linter.unusedVariables false
namespace Go.Proofs.Ytibfkkjkahpobaa.PDag
open Go.RowKit Go.Proofs.YtibfkkjkahpobaaW.PrintWords Go.Proofs.YtibfkkjkahpobaaW.PrintLast Go.Proofs.YtibfkkjkahpobaaW.PrintMore
theorem rd_nat (h : List Int) (i : Nat) (hi : i < h.length) : rd h (i : Int) = h[i] := by
  unfold rd
  rw [Int.toNat_natCast, List.getD_eq_getElem?_getD, List.getElem?_eq_getElem hi]; rfl
section
variable (m : Int → Int → Int) (val : S51 → Int → Int)
variable {m}
end
def hval (e : S51) (x : Int) : Int := wrap64 (e.f2 + x)
def okA (l : List S24) : Prop := ∀ x ∈ l, okI x = true
theorem okA_L {l : List S24} (h : okA l) : okL l := fun i hi => by rw [rd_at l i hi]; exact h _ (List.getElem_mem hi)
end Go.Proofs.Ytibfkkjkahpobaa.PDag
