import Derived.Test.YtibfkkjkahpobaaGreatFt2
import Derived.Test.YtibfkkjkahpobaaGreatFt3
set_option linter.unusedVariables false
set_option linter.unusedSimpArgs false
-- the texts that this claim needs, out of this session's and its print's (wip/shrink.py)
namespace Go.Proofs.YtibfkkjkahpobaaGreatW.PrintWords
open Go.RowKit
section
variable {P : Program}
end
namespace Kd
section
variable {P : Program} {ops : Array Oper} {rest : List Oper} {o : Oper} {a : Act} {Q : Exit → Act → World → Prop} {Kc : Act → World → Prop} {α : Type}
end
section
variable {α : Type} {d : Kd α} {e : Nat} {w : World} {base : Nat} {ok : Nat → Prop} {v : Value} {xs : List α}
end
section
variable {P : Program} {ops : Array Oper} {rest : List Oper} {o : Oper} {a : Act} {Q : Exit → Act → World → Prop} {Kc : Act → World → Prop} {α : Type}
end
end Kd
end Go.Proofs.YtibfkkjkahpobaaGreatW.PrintWords
