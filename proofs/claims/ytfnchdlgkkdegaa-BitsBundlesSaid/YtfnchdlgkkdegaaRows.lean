/-
  No cell of these rows narrows 'for every input' (looked for: loops, veiled, ifaces, maps, wideKeys, modest, calm, conditions, laid).
  DERIVED. THE GIVEN ROWS OF THIS SEAT. 5 by the template 'for every input the law returns true; each argument reads behind the call as it read before'; 0 by the template 'total and deterministic' (their statements: YtfnchdlgkkdegaaTotals.lean).
  GIVEN WITH THE SEED: the statements are not yours to turn. If you find one false, say at which input.
  Laid BY PROGRAM, IN A SANDBOX (cutbox-rows.mjs): the forced cells as the released guide's own fill.sh prints them over the translation f0baff7762f9dea7… (all of the seat's roots in one cut). By AI agents, Wed Nov 11 2026. No macro, syntax, notation, axiom, sorry.
-/
import Derived.Test.YtfnchdlgkkdegaaChecked
import GoSem.Claim
import GoSem.ClaimJoined
import GoSem.ClaimMapViews
import Derived.JoinedTies
import Derived.KernelRfl
namespace Go.Proofs.Ytfnchdlgkkdegaa
/- THE CELL 'sum', in the pinned program and in every row, IS THE sha256 OF THE DUMP (.gsa) THAT YtfnchdlgkkdegaaProg.lean LOADS. Nothing in Lean hashes anything: it is a label: what it is worth is what the hold of that sum in a sandbox is worth. -/
noncomputable def Try.pinned : Pinned := { name := "ytfnchdlgkkdegaa", sum := "f0baff7762f9dea78ff3b39a7cb3abea03d42f5204192b04ebcdffc42735558a", checked := Try.checked }
namespace Rows
def none {H : Type} : Left H := { results := [], args := [] }

/-- 'sledgelaw4.BitsWord': WHATEVER THE INPUT: true; the input reads as it did. -/
def bitsWordSpec : ChangeSpec := { name := "bitsWord", fn := fun _ => fun
  | [d] => { results := [.lit (.bool true)], args := [d] }
  | _ => none }
def bitsWordRow : OpenClaim := { program := "ytfnchdlgkkdegaa", sum := "f0baff7762f9dea78ff3b39a7cb3abea03d42f5204192b04ebcdffc42735558a", func := "sledge/sledgelaw4.BitsWord", spec := "bitsWord", apart := false }
def BitsWordSaid : Prop := bitsWordRow.holds Try.pinned (OpenSpec.ofChange bitsWordSpec)

/-- ITS FALSE NEIGHBOUR: 'it returns false'. Refute it at one input. -/
def bitsWordWrong : ChangeSpec := { name := "bitsWord", fn := fun _ => fun
  | [d] => { results := [.lit (.bool false)], args := [d] }
  | _ => none }
def BitsWordWrongFalsely : Prop := bitsWordRow.holds Try.pinned (OpenSpec.ofChange bitsWordWrong)

/-- 'sledgelaw4.BitsEach': WHATEVER THE INPUT: true; the input reads as it did. -/
def bitsEachSpec : ChangeSpec := { name := "bitsEach", fn := fun _ => fun
  | [d] => { results := [.lit (.bool true)], args := [d] }
  | _ => none }
def bitsEachRow : OpenClaim := { program := "ytfnchdlgkkdegaa", sum := "f0baff7762f9dea78ff3b39a7cb3abea03d42f5204192b04ebcdffc42735558a", func := "sledge/sledgelaw4.BitsEach", spec := "bitsEach", apart := false }
def BitsEachSaid : Prop := bitsEachRow.holds Try.pinned (OpenSpec.ofChange bitsEachSpec)

/-- ITS FALSE NEIGHBOUR: 'it returns false'. Refute it at one input. -/
def bitsEachWrong : ChangeSpec := { name := "bitsEach", fn := fun _ => fun
  | [d] => { results := [.lit (.bool false)], args := [d] }
  | _ => none }
def BitsEachWrongFalsely : Prop := bitsEachRow.holds Try.pinned (OpenSpec.ofChange bitsEachWrong)

/-- 'sledgelaw4.BitsNone': WHATEVER THE INPUT: true; the input reads as it did. -/
def bitsNoneSpec : ChangeSpec := { name := "bitsNone", fn := fun _ => fun
  | [d] => { results := [.lit (.bool true)], args := [d] }
  | _ => none }
def bitsNoneRow : OpenClaim := { program := "ytfnchdlgkkdegaa", sum := "f0baff7762f9dea78ff3b39a7cb3abea03d42f5204192b04ebcdffc42735558a", func := "sledge/sledgelaw4.BitsNone", spec := "bitsNone", apart := false }
def BitsNoneSaid : Prop := bitsNoneRow.holds Try.pinned (OpenSpec.ofChange bitsNoneSpec)

/-- ITS FALSE NEIGHBOUR: 'it returns false'. Refute it at one input. -/
def bitsNoneWrong : ChangeSpec := { name := "bitsNone", fn := fun _ => fun
  | [d] => { results := [.lit (.bool false)], args := [d] }
  | _ => none }
def BitsNoneWrongFalsely : Prop := bitsNoneRow.holds Try.pinned (OpenSpec.ofChange bitsNoneWrong)

/-- 'sledgelaw4.BitsBack': WHATEVER THE INPUT: true; the input reads as it did. -/
def bitsBackSpec : ChangeSpec := { name := "bitsBack", fn := fun _ => fun
  | [d] => { results := [.lit (.bool true)], args := [d] }
  | _ => none }
def bitsBackRow : OpenClaim := { program := "ytfnchdlgkkdegaa", sum := "f0baff7762f9dea78ff3b39a7cb3abea03d42f5204192b04ebcdffc42735558a", func := "sledge/sledgelaw4.BitsBack", spec := "bitsBack", apart := false }
def BitsBackSaid : Prop := bitsBackRow.holds Try.pinned (OpenSpec.ofChange bitsBackSpec)

/-- ITS FALSE NEIGHBOUR: 'it returns false'. Refute it at one input. -/
def bitsBackWrong : ChangeSpec := { name := "bitsBack", fn := fun _ => fun
  | [d] => { results := [.lit (.bool false)], args := [d] }
  | _ => none }
def BitsBackWrongFalsely : Prop := bitsBackRow.holds Try.pinned (OpenSpec.ofChange bitsBackWrong)

/-- 'sledgelaw4.BitsBundles': WHATEVER THE INPUT: true; the input reads as it did. -/
def bitsBundlesSpec : ChangeSpec := { name := "bitsBundles", fn := fun _ => fun
  | [d] => { results := [.lit (.bool true)], args := [d] }
  | _ => none }
def bitsBundlesRow : OpenClaim := { program := "ytfnchdlgkkdegaa", sum := "f0baff7762f9dea78ff3b39a7cb3abea03d42f5204192b04ebcdffc42735558a", func := "sledge/sledgelaw4.BitsBundles", spec := "bitsBundles", apart := false }
def BitsBundlesSaid : Prop := bitsBundlesRow.holds Try.pinned (OpenSpec.ofChange bitsBundlesSpec)

/-- ITS FALSE NEIGHBOUR: 'it returns false'. Refute it at one input. -/
def bitsBundlesWrong : ChangeSpec := { name := "bitsBundles", fn := fun _ => fun
  | [d] => { results := [.lit (.bool false)], args := [d] }
  | _ => none }
def BitsBundlesWrongFalsely : Prop := bitsBundlesRow.holds Try.pinned (OpenSpec.ofChange bitsBundlesWrong)

/- THE SECOND FORM. 'bulk': how many values and letters a reading holds, each counted each time it is reached (what is shared counts as often as it is met; a slice's spare places count too). A statement '..UptoSaid' is the law's where the arguments, and the package variables that the reading takes, are together of bulk at most 1048576: NARROWER than '..Said'. Prove '..Said' where nothing that the law and all that it calls make is longer than what came in: it says more and counts as full. Else prove '..UptoSaid'. A law counts once. -/
mutual
def uptoBulk {H : Type} : DataW H → Nat
  | .lit (.string bytes) => bytes.length + 1
  | .lit _ => 1
  | .nil => 1
  | .ptr d => uptoBulk d + 1
  | .slice elems spare => uptoBulkAll elems + uptoBulkAll spare + 1
  | .agg parts => uptoBulkAll parts + 1
  | .iface _ d => uptoBulk d + 1
  | .map entries => uptoBulkEntries entries + 1
  | .held _ => 1
def uptoBulkAll {H : Type} : List (DataW H) → Nat
  | [] => 0
  | d :: r => uptoBulk d + uptoBulkAll r
def uptoBulkEntries {H : Type} : List (Lit × DataW H) → Nat
  | [] => 0
  | x :: r => uptoBulkEntry x + uptoBulkEntries r
def uptoBulkEntry {H : Type} : Lit × DataW H → Nat
  | (.string bytes, d) => bytes.length + uptoBulk d + 1
  | (_, d) => uptoBulk d + 1
 end
def uptoSmall : (H : Type) → List (DataW H) → Bool := fun _ ds => decide (uptoBulkAll ds ≤ 1048576)
def OpenSpec.upto (s : _root_.Go.ChangeSpec) : _root_.Go.OpenSpec := { _root_.Go.OpenSpec.ofChange s with cond := some uptoSmall }

/-- 'sledgelaw4.BitsWord', WHERE WHAT IT READS IS OF BULK AT MOST 1048576: true; the input reads as it did. -/
def bitsWordUptoRow : OpenClaim := { program := "ytfnchdlgkkdegaa", sum := "f0baff7762f9dea78ff3b39a7cb3abea03d42f5204192b04ebcdffc42735558a", func := "sledge/sledgelaw4.BitsWord", spec := "bitsWord", apart := false, narrowed := true }
def BitsWordUptoSaid : Prop := bitsWordUptoRow.holds Try.pinned (OpenSpec.upto bitsWordSpec)

/-- 'sledgelaw4.BitsEach', WHERE WHAT IT READS IS OF BULK AT MOST 1048576: true; the input reads as it did. -/
def bitsEachUptoRow : OpenClaim := { program := "ytfnchdlgkkdegaa", sum := "f0baff7762f9dea78ff3b39a7cb3abea03d42f5204192b04ebcdffc42735558a", func := "sledge/sledgelaw4.BitsEach", spec := "bitsEach", apart := false, narrowed := true }
def BitsEachUptoSaid : Prop := bitsEachUptoRow.holds Try.pinned (OpenSpec.upto bitsEachSpec)

/-- 'sledgelaw4.BitsNone', WHERE WHAT IT READS IS OF BULK AT MOST 1048576: true; the input reads as it did. -/
def bitsNoneUptoRow : OpenClaim := { program := "ytfnchdlgkkdegaa", sum := "f0baff7762f9dea78ff3b39a7cb3abea03d42f5204192b04ebcdffc42735558a", func := "sledge/sledgelaw4.BitsNone", spec := "bitsNone", apart := false, narrowed := true }
def BitsNoneUptoSaid : Prop := bitsNoneUptoRow.holds Try.pinned (OpenSpec.upto bitsNoneSpec)

/-- 'sledgelaw4.BitsBack', WHERE WHAT IT READS IS OF BULK AT MOST 1048576: true; the input reads as it did. -/
def bitsBackUptoRow : OpenClaim := { program := "ytfnchdlgkkdegaa", sum := "f0baff7762f9dea78ff3b39a7cb3abea03d42f5204192b04ebcdffc42735558a", func := "sledge/sledgelaw4.BitsBack", spec := "bitsBack", apart := false, narrowed := true }
def BitsBackUptoSaid : Prop := bitsBackUptoRow.holds Try.pinned (OpenSpec.upto bitsBackSpec)

/-- 'sledgelaw4.BitsBundles', WHERE WHAT IT READS IS OF BULK AT MOST 1048576: true; the input reads as it did. -/
def bitsBundlesUptoRow : OpenClaim := { program := "ytfnchdlgkkdegaa", sum := "f0baff7762f9dea78ff3b39a7cb3abea03d42f5204192b04ebcdffc42735558a", func := "sledge/sledgelaw4.BitsBundles", spec := "bitsBundles", apart := false, narrowed := true }
def BitsBundlesUptoSaid : Prop := bitsBundlesUptoRow.holds Try.pinned (OpenSpec.upto bitsBundlesSpec)

end Rows
end Go.Proofs.Ytfnchdlgkkdegaa
