/- BitsNone: the pure statement, and the contract as its row wants it. -/
import Derived.Test.YtfnchdlgkkdegaaAsk
import Derived.Test.YtfnchdlgkkdegaaPAllx14
namespace Go.Proofs.Ytfnchdlgkkdegaa.PAll
open Go.RowKit Go.Proofs.YtfnchdlgkkdegaaW.PrintWords Go.Proofs.YtfnchdlgkkdegaaW.PrintLast Go.Proofs.YtfnchdlgkkdegaaW.PrintMore

theorem none_pure (lI : List S35) (lS : List ByteArray) (lW lN : List Int) (lB : List S52) : sledgelaw4_BitsNone.f 8000 lI lS lW lN lB = some true := by
  kernel_rfl

theorem none_walk : LawWalk 5 := by
  intro A0 c0 lI A1 c1 lS A2 c2 lW A3 c3 lN A4 c4 lB w g0 b0 g1 b1 g2 b2 g3 b3 g4 b4 _
  exact sledgelaw4_BitsNone.calls 8000 A0 c0 lI A1 c1 lS A2 c2 lW A3 c3 lN A4 c4 lB true w g0 b0 g1 b1 g2 b2 g3 b3 g4 b4 (none_pure ..)
end Go.Proofs.Ytfnchdlgkkdegaa.PAll
