-- the texts that this claim needs, out of this session's and its print's (wip/shrink.py)
import Derived.Test.YtfnchdlgkkdegaaWordPureT
namespace Go.Proofs.Ytfnchdlgkkdegaa.PAll
open Go.RowKit Go.Proofs.YtfnchdlgkkdegaaW.PrintWords Go.Proofs.YtfnchdlgkkdegaaW.PrintLast Go.Proofs.YtfnchdlgkkdegaaW.PrintMore
set_option linter.unusedVariables false
set_option linter.unusedSimpArgs false
theorem ins_parts {op d a b imm : Int} {s : ByteArray} (h : insOk op d a b imm s = true) : (0 ≤ op ∧ op ≤ 33) ∧ regOk (hasD (formOf op)) d = true ∧ regOk (hasA (formOf op)) a = true ∧ regOk (hasB (formOf op)) b = true ∧ immOk (formOf op) imm s = true := by
  unfold insOk at h
  simpa only [Bool.and_eq_true, decide_eq_true_eq] using h
end Go.Proofs.Ytfnchdlgkkdegaa.PAll
