-- the texts that this claim needs, out of this session's and its print's (wip/shrink.py)
import Derived.Test.YtfnchdlgkkdegaaAskT
import Derived.Test.YtfnchdlgkkdegaaBundlesWalkT
namespace Go.Proofs.Ytfnchdlgkkdegaa.PAll
open Go.RowKit Go.Proofs.YtfnchdlgkkdegaaW.PrintWords Go.Proofs.YtfnchdlgkkdegaaW.PrintLast Go.Proofs.YtfnchdlgkkdegaaW.PrintMore
set_option linter.unusedVariables false
theorem bundles_walk : LawWalk 7 := by
  intro A0 c0 lI A1 c1 lS A2 c2 lW A3 c3 lN A4 c4 lB w g0 b0 g1 b1 g2 b2 g3 b3 g4 b4 hin
  exact bundles_calls A0 lI.length c0 A1 lS.length c1 A2 lW.length c2 A3 lN.length c3 A4 c4 lB w g4
end Go.Proofs.Ytfnchdlgkkdegaa.PAll
