-- the texts that this claim needs, out of this session's and its print's (wip/shrink.py)
import Derived.Test.YtfnchdlgkkdegaaBunWalkT
import Derived.Test.YtfnchdlgkkdegaaBackPureT
import Derived.Test.YtfnchdlgkkdegaaPAllx16T
import Derived.Test.YtfnchdlgkkdegaaPAllx1T
set_option linter.unusedVariables false
set_option linter.unusedSimpArgs false
namespace Go.Proofs.Ytfnchdlgkkdegaa.PAll
open Go.RowKit Go.Proofs.YtfnchdlgkkdegaaW.PrintWords Go.Proofs.YtfnchdlgkkdegaaW.PrintLast Go.Proofs.YtfnchdlgkkdegaaW.PrintMore
def wordX (x : S35) : Int := wordOf x.f0 x.f1 x.f2 x.f3 x.f4
def eqI (x y : S35) : Bool := x.f0 == y.f0 && (x.f1 == y.f1 && (x.f2 == y.f2 && (x.f3 == y.f3 && (x.f4 == y.f4 && (x.f5.toList == y.f5.toList)))))
theorem eqI_refl (x : S35) : eqI x x = true := by unfold eqI; simp
theorem ref_may_eq {k : Nat} (hk : 20 ≤ k) (op s : Int) (h0 : 0 ≤ op) (h1 : op ≤ 33) (s0 : 0 ≤ s) (s1 : s ≤ 3) : r3_May.f k op s = some (mayOp op s) := by
  refine at_rounds (r3_May.mono op s) hk ?_
  have hs : s = 0 ∨ s = 1 ∨ s = 2 ∨ s = 3 := by omega
  rcases hs with rfl | rfl | rfl | rfl
  · exact upto34 (p := fun op => r3_May.f 20 op 0 = some (mayOp op 0)) (by decide +kernel) op h0 h1
  · exact upto34 (p := fun op => r3_May.f 20 op 1 = some (mayOp op 1)) (by decide +kernel) op h0 h1
  · exact upto34 (p := fun op => r3_May.f 20 op 2 = some (mayOp op 2)) (by decide +kernel) op h0 h1
  · exact upto34 (p := fun op => r3_May.f 20 op 3 = some (mayOp op 3)) (by decide +kernel) op h0 h1
section
variable {P : Program} {o : Oper} {a : Act} {W : World} {b : BinOp} {t t2 : TypeId} {x y : Operand} {u v r : Value}
theorem exec_bin (hop : o.op = .binOp b t x y t2) (h1 : a.eval x = u) (h2 : a.eval y = v) (hg : (eqGuard b t x y u v).run P W = .ok () W) (h : (Go.binOp b t u v).run P W = .ok r W) : (execOp a.eval o).run P W = .ok (.value r) W := by
  simp [execOp, hop, h1, h2, hg, h, Result.andThen]
end
end Go.Proofs.Ytfnchdlgkkdegaa.PAll
