/-
  No cell of these rows narrows 'for every input' (looked for: loops, veiled, ifaces, maps, wideKeys, modest, calm, conditions, laid).
  DERIVED. THE GIVEN ROWS OF THIS SEAT. 12 by the template 'for every input the law returns true; each argument reads behind the call as it read before'; 0 by the template 'total and deterministic' (their statements: YtibfkkjkahpobaaTotals.lean).
  GIVEN WITH THE SEED: the statements are not yours to turn. If you find one false, say at which input.
  Laid BY PROGRAM, IN A SANDBOX (cutbox-rows.mjs): the forced cells as the released guide's own fill.sh prints them over the translation 78e821a9b5bb82d8… (all of the seat's roots in one cut). By AI agents, Wed Nov 11 2026. No macro, syntax, notation, axiom, sorry.
-/
import Derived.Test.YtibfkkjkahpobaaChecked
import GoSem.Claim
import GoSem.ClaimJoined
import GoSem.ClaimMapViews
import Derived.JoinedTies
import Derived.KernelRfl
namespace Go.Proofs.Ytibfkkjkahpobaa
/- THE CELL 'sum', in the pinned program and in every row, IS THE sha256 OF THE DUMP (.gsa) THAT YtibfkkjkahpobaaProg.lean LOADS. Nothing in Lean hashes anything: it is a label: what it is worth is what the hold of that sum in a sandbox is worth. -/
noncomputable def Try.pinned : Pinned := { name := "ytibfkkjkahpobaa", sum := "78e821a9b5bb82d83adb6f7b7ceb9f178f899832a2c3354aaee4def4dcee744e", checked := Try.checked }
namespace Rows
def none {H : Type} : Left H := { results := [], args := [] }

/-- 'sledgelaw14.DagKinds': WHATEVER THE INPUT: true; the input reads as it did. -/
def dagKindsSpec : ChangeSpec := { name := "dagKinds", fn := fun _ => fun
  | [d] => { results := [.lit (.bool true)], args := [d] }
  | _ => none }
def dagKindsRow : OpenClaim := { program := "ytibfkkjkahpobaa", sum := "78e821a9b5bb82d83adb6f7b7ceb9f178f899832a2c3354aaee4def4dcee744e", func := "sledge/sledgelaw14.DagKinds", spec := "dagKinds", unfollowed := true, recurses := true, plainKeys := false, apart := false }
def DagKindsSaid : Prop := dagKindsRow.holds Try.pinned (OpenSpec.ofChange dagKindsSpec)

/-- ITS FALSE NEIGHBOUR: 'it returns false'. Refute it at one input. -/
def dagKindsWrong : ChangeSpec := { name := "dagKinds", fn := fun _ => fun
  | [d] => { results := [.lit (.bool false)], args := [d] }
  | _ => none }
def DagKindsWrongFalsely : Prop := dagKindsRow.holds Try.pinned (OpenSpec.ofChange dagKindsWrong)

/-- 'sledgelaw14.DagChains': WHATEVER THE INPUT: true; the input reads as it did. -/
def dagChainsSpec : ChangeSpec := { name := "dagChains", fn := fun _ => fun
  | [d] => { results := [.lit (.bool true)], args := [d] }
  | _ => none }
def dagChainsRow : OpenClaim := { program := "ytibfkkjkahpobaa", sum := "78e821a9b5bb82d83adb6f7b7ceb9f178f899832a2c3354aaee4def4dcee744e", func := "sledge/sledgelaw14.DagChains", spec := "dagChains", unfollowed := true, recurses := true, plainKeys := false, apart := false }
def DagChainsSaid : Prop := dagChainsRow.holds Try.pinned (OpenSpec.ofChange dagChainsSpec)

/-- ITS FALSE NEIGHBOUR: 'it returns false'. Refute it at one input. -/
def dagChainsWrong : ChangeSpec := { name := "dagChains", fn := fun _ => fun
  | [d] => { results := [.lit (.bool false)], args := [d] }
  | _ => none }
def DagChainsWrongFalsely : Prop := dagChainsRow.holds Try.pinned (OpenSpec.ofChange dagChainsWrong)

/-- 'sledgelaw14.DagEdges': WHATEVER THE INPUT: true; the input reads as it did. -/
def dagEdgesSpec : ChangeSpec := { name := "dagEdges", fn := fun _ => fun
  | [d] => { results := [.lit (.bool true)], args := [d] }
  | _ => none }
def dagEdgesRow : OpenClaim := { program := "ytibfkkjkahpobaa", sum := "78e821a9b5bb82d83adb6f7b7ceb9f178f899832a2c3354aaee4def4dcee744e", func := "sledge/sledgelaw14.DagEdges", spec := "dagEdges", unfollowed := true, recurses := true, plainKeys := false, apart := false }
def DagEdgesSaid : Prop := dagEdgesRow.holds Try.pinned (OpenSpec.ofChange dagEdgesSpec)

/-- ITS FALSE NEIGHBOUR: 'it returns false'. Refute it at one input. -/
def dagEdgesWrong : ChangeSpec := { name := "dagEdges", fn := fun _ => fun
  | [d] => { results := [.lit (.bool false)], args := [d] }
  | _ => none }
def DagEdgesWrongFalsely : Prop := dagEdgesRow.holds Try.pinned (OpenSpec.ofChange dagEdgesWrong)

/-- 'sledgelaw14.DagHigh': WHATEVER THE INPUT: true; the input reads as it did. -/
def dagHighSpec : ChangeSpec := { name := "dagHigh", fn := fun _ => fun
  | [d] => { results := [.lit (.bool true)], args := [d] }
  | _ => none }
def dagHighRow : OpenClaim := { program := "ytibfkkjkahpobaa", sum := "78e821a9b5bb82d83adb6f7b7ceb9f178f899832a2c3354aaee4def4dcee744e", func := "sledge/sledgelaw14.DagHigh", spec := "dagHigh", unfollowed := true, recurses := true, plainKeys := false, apart := false }
def DagHighSaid : Prop := dagHighRow.holds Try.pinned (OpenSpec.ofChange dagHighSpec)

/-- ITS FALSE NEIGHBOUR: 'it returns false'. Refute it at one input. -/
def dagHighWrong : ChangeSpec := { name := "dagHigh", fn := fun _ => fun
  | [d] => { results := [.lit (.bool false)], args := [d] }
  | _ => none }
def DagHighWrongFalsely : Prop := dagHighRow.holds Try.pinned (OpenSpec.ofChange dagHighWrong)

/-- 'sledgelaw14.DagLast': WHATEVER THE INPUT: true; the input reads as it did. -/
def dagLastSpec : ChangeSpec := { name := "dagLast", fn := fun _ => fun
  | [d] => { results := [.lit (.bool true)], args := [d] }
  | _ => none }
def dagLastRow : OpenClaim := { program := "ytibfkkjkahpobaa", sum := "78e821a9b5bb82d83adb6f7b7ceb9f178f899832a2c3354aaee4def4dcee744e", func := "sledge/sledgelaw14.DagLast", spec := "dagLast", unfollowed := true, recurses := true, plainKeys := false, apart := false }
def DagLastSaid : Prop := dagLastRow.holds Try.pinned (OpenSpec.ofChange dagLastSpec)

/-- ITS FALSE NEIGHBOUR: 'it returns false'. Refute it at one input. -/
def dagLastWrong : ChangeSpec := { name := "dagLast", fn := fun _ => fun
  | [d] => { results := [.lit (.bool false)], args := [d] }
  | _ => none }
def DagLastWrongFalsely : Prop := dagLastRow.holds Try.pinned (OpenSpec.ofChange dagLastWrong)

/-- 'sledgelaw15.SchedChains': WHATEVER THE INPUT: true; the input reads as it did. -/
def schedChainsSpec : ChangeSpec := { name := "schedChains", fn := fun _ => fun
  | [d] => { results := [.lit (.bool true)], args := [d] }
  | _ => none }
def schedChainsRow : OpenClaim := { program := "ytibfkkjkahpobaa", sum := "78e821a9b5bb82d83adb6f7b7ceb9f178f899832a2c3354aaee4def4dcee744e", func := "sledge/sledgelaw15.SchedChains", spec := "schedChains", unfollowed := true, recurses := true, plainKeys := false, apart := false }
def SchedChainsSaid : Prop := schedChainsRow.holds Try.pinned (OpenSpec.ofChange schedChainsSpec)

/-- ITS FALSE NEIGHBOUR: 'it returns false'. Refute it at one input. -/
def schedChainsWrong : ChangeSpec := { name := "schedChains", fn := fun _ => fun
  | [d] => { results := [.lit (.bool false)], args := [d] }
  | _ => none }
def SchedChainsWrongFalsely : Prop := schedChainsRow.holds Try.pinned (OpenSpec.ofChange schedChainsWrong)

/-- 'sledgelaw15.SchedSlots': WHATEVER THE INPUT: true; the input reads as it did. -/
def schedSlotsSpec : ChangeSpec := { name := "schedSlots", fn := fun _ => fun
  | [d] => { results := [.lit (.bool true)], args := [d] }
  | _ => none }
def schedSlotsRow : OpenClaim := { program := "ytibfkkjkahpobaa", sum := "78e821a9b5bb82d83adb6f7b7ceb9f178f899832a2c3354aaee4def4dcee744e", func := "sledge/sledgelaw15.SchedSlots", spec := "schedSlots", unfollowed := true, recurses := true, plainKeys := false, apart := false }
def SchedSlotsSaid : Prop := schedSlotsRow.holds Try.pinned (OpenSpec.ofChange schedSlotsSpec)

/-- ITS FALSE NEIGHBOUR: 'it returns false'. Refute it at one input. -/
def schedSlotsWrong : ChangeSpec := { name := "schedSlots", fn := fun _ => fun
  | [d] => { results := [.lit (.bool false)], args := [d] }
  | _ => none }
def SchedSlotsWrongFalsely : Prop := schedSlotsRow.holds Try.pinned (OpenSpec.ofChange schedSlotsWrong)

/-- 'sledgelaw15.SchedEffects': WHATEVER THE INPUT: true; the input reads as it did. -/
def schedEffectsSpec : ChangeSpec := { name := "schedEffects", fn := fun _ => fun
  | [d] => { results := [.lit (.bool true)], args := [d] }
  | _ => none }
def schedEffectsRow : OpenClaim := { program := "ytibfkkjkahpobaa", sum := "78e821a9b5bb82d83adb6f7b7ceb9f178f899832a2c3354aaee4def4dcee744e", func := "sledge/sledgelaw15.SchedEffects", spec := "schedEffects", unfollowed := true, recurses := true, plainKeys := false, apart := false }
def SchedEffectsSaid : Prop := schedEffectsRow.holds Try.pinned (OpenSpec.ofChange schedEffectsSpec)

/-- ITS FALSE NEIGHBOUR: 'it returns false'. Refute it at one input. -/
def schedEffectsWrong : ChangeSpec := { name := "schedEffects", fn := fun _ => fun
  | [d] => { results := [.lit (.bool false)], args := [d] }
  | _ => none }
def SchedEffectsWrongFalsely : Prop := schedEffectsRow.holds Try.pinned (OpenSpec.ofChange schedEffectsWrong)

/-- 'sledgelaw15.SchedEnds': WHATEVER THE INPUT: true; the input reads as it did. -/
def schedEndsSpec : ChangeSpec := { name := "schedEnds", fn := fun _ => fun
  | [d] => { results := [.lit (.bool true)], args := [d] }
  | _ => none }
def schedEndsRow : OpenClaim := { program := "ytibfkkjkahpobaa", sum := "78e821a9b5bb82d83adb6f7b7ceb9f178f899832a2c3354aaee4def4dcee744e", func := "sledge/sledgelaw15.SchedEnds", spec := "schedEnds", unfollowed := true, recurses := true, plainKeys := false, apart := false }
def SchedEndsSaid : Prop := schedEndsRow.holds Try.pinned (OpenSpec.ofChange schedEndsSpec)

/-- ITS FALSE NEIGHBOUR: 'it returns false'. Refute it at one input. -/
def schedEndsWrong : ChangeSpec := { name := "schedEnds", fn := fun _ => fun
  | [d] => { results := [.lit (.bool false)], args := [d] }
  | _ => none }
def SchedEndsWrongFalsely : Prop := schedEndsRow.holds Try.pinned (OpenSpec.ofChange schedEndsWrong)

/-- 'sledgelaw15.SchedUrges': WHATEVER THE INPUT: true; the input reads as it did. -/
def schedUrgesSpec : ChangeSpec := { name := "schedUrges", fn := fun _ => fun
  | [d] => { results := [.lit (.bool true)], args := [d] }
  | _ => none }
def schedUrgesRow : OpenClaim := { program := "ytibfkkjkahpobaa", sum := "78e821a9b5bb82d83adb6f7b7ceb9f178f899832a2c3354aaee4def4dcee744e", func := "sledge/sledgelaw15.SchedUrges", spec := "schedUrges", unfollowed := true, recurses := true, plainKeys := false, apart := false }
def SchedUrgesSaid : Prop := schedUrgesRow.holds Try.pinned (OpenSpec.ofChange schedUrgesSpec)

/-- ITS FALSE NEIGHBOUR: 'it returns false'. Refute it at one input. -/
def schedUrgesWrong : ChangeSpec := { name := "schedUrges", fn := fun _ => fun
  | [d] => { results := [.lit (.bool false)], args := [d] }
  | _ => none }
def SchedUrgesWrongFalsely : Prop := schedUrgesRow.holds Try.pinned (OpenSpec.ofChange schedUrgesWrong)

/-- 'sledgelaw15.SchedMixed': WHATEVER THE INPUT: true; the input reads as it did. -/
def schedMixedSpec : ChangeSpec := { name := "schedMixed", fn := fun _ => fun
  | [d] => { results := [.lit (.bool true)], args := [d] }
  | _ => none }
def schedMixedRow : OpenClaim := { program := "ytibfkkjkahpobaa", sum := "78e821a9b5bb82d83adb6f7b7ceb9f178f899832a2c3354aaee4def4dcee744e", func := "sledge/sledgelaw15.SchedMixed", spec := "schedMixed", unfollowed := true, recurses := true, plainKeys := false, apart := false }
def SchedMixedSaid : Prop := schedMixedRow.holds Try.pinned (OpenSpec.ofChange schedMixedSpec)

/-- ITS FALSE NEIGHBOUR: 'it returns false'. Refute it at one input. -/
def schedMixedWrong : ChangeSpec := { name := "schedMixed", fn := fun _ => fun
  | [d] => { results := [.lit (.bool false)], args := [d] }
  | _ => none }
def SchedMixedWrongFalsely : Prop := schedMixedRow.holds Try.pinned (OpenSpec.ofChange schedMixedWrong)

/-- 'sledgelaw15.SchedHolds': WHATEVER THE INPUT: true; the input reads as it did. -/
def schedHoldsSpec : ChangeSpec := { name := "schedHolds", fn := fun _ => fun
  | [d] => { results := [.lit (.bool true)], args := [d] }
  | _ => none }
def schedHoldsRow : OpenClaim := { program := "ytibfkkjkahpobaa", sum := "78e821a9b5bb82d83adb6f7b7ceb9f178f899832a2c3354aaee4def4dcee744e", func := "sledge/sledgelaw15.SchedHolds", spec := "schedHolds", unfollowed := true, recurses := true, plainKeys := false, apart := false }
def SchedHoldsSaid : Prop := schedHoldsRow.holds Try.pinned (OpenSpec.ofChange schedHoldsSpec)

/-- ITS FALSE NEIGHBOUR: 'it returns false'. Refute it at one input. -/
def schedHoldsWrong : ChangeSpec := { name := "schedHolds", fn := fun _ => fun
  | [d] => { results := [.lit (.bool false)], args := [d] }
  | _ => none }
def SchedHoldsWrongFalsely : Prop := schedHoldsRow.holds Try.pinned (OpenSpec.ofChange schedHoldsWrong)

/- THE SECOND FORM. 'bulk': how many values and letters a reading holds, each counted each time it is reached (what is shared counts as often as it is met; a slice's spare places count too). A statement '..UptoSaid' is the law's where the arguments, and the package variables that the reading takes, are together of bulk at most 1048576: NARROWER than '..Said'. Prove '..Said' where nothing that the law and all that it calls make is longer than what came in: it says more and counts as full. Else prove '..UptoSaid'. A law counts once. -/
mutual
def uptoBulk {H : Type} : DataW H → Nat
  | .lit (.string bytes) => bytes.length + 1
  | .lit _ => 1
  | .nil => 1
  | .ptr d => uptoBulk d + 1
  | .slice elems spare => uptoBulkAll elems + uptoBulkAll spare + 1
  | .agg parts => uptoBulkAll parts + 1
  | .iface _ d => uptoBulk d + 1
  | .map entries => uptoBulkEntries entries + 1
  | .held _ => 1
def uptoBulkAll {H : Type} : List (DataW H) → Nat
  | [] => 0
  | d :: r => uptoBulk d + uptoBulkAll r
def uptoBulkEntries {H : Type} : List (Lit × DataW H) → Nat
  | [] => 0
  | x :: r => uptoBulkEntry x + uptoBulkEntries r
def uptoBulkEntry {H : Type} : Lit × DataW H → Nat
  | (.string bytes, d) => bytes.length + uptoBulk d + 1
  | (_, d) => uptoBulk d + 1
 end
def uptoSmall : (H : Type) → List (DataW H) → Bool := fun _ ds => decide (uptoBulkAll ds ≤ 1048576)
def OpenSpec.upto (s : _root_.Go.ChangeSpec) : _root_.Go.OpenSpec := { _root_.Go.OpenSpec.ofChange s with cond := some uptoSmall }

/-- 'sledgelaw14.DagKinds', WHERE WHAT IT READS IS OF BULK AT MOST 1048576: true; the input reads as it did. -/
def dagKindsUptoRow : OpenClaim := { program := "ytibfkkjkahpobaa", sum := "78e821a9b5bb82d83adb6f7b7ceb9f178f899832a2c3354aaee4def4dcee744e", func := "sledge/sledgelaw14.DagKinds", spec := "dagKinds", unfollowed := true, recurses := true, plainKeys := false, apart := false, narrowed := true }
def DagKindsUptoSaid : Prop := dagKindsUptoRow.holds Try.pinned (OpenSpec.upto dagKindsSpec)

/-- 'sledgelaw14.DagChains', WHERE WHAT IT READS IS OF BULK AT MOST 1048576: true; the input reads as it did. -/
def dagChainsUptoRow : OpenClaim := { program := "ytibfkkjkahpobaa", sum := "78e821a9b5bb82d83adb6f7b7ceb9f178f899832a2c3354aaee4def4dcee744e", func := "sledge/sledgelaw14.DagChains", spec := "dagChains", unfollowed := true, recurses := true, plainKeys := false, apart := false, narrowed := true }
def DagChainsUptoSaid : Prop := dagChainsUptoRow.holds Try.pinned (OpenSpec.upto dagChainsSpec)

/-- 'sledgelaw14.DagEdges', WHERE WHAT IT READS IS OF BULK AT MOST 1048576: true; the input reads as it did. -/
def dagEdgesUptoRow : OpenClaim := { program := "ytibfkkjkahpobaa", sum := "78e821a9b5bb82d83adb6f7b7ceb9f178f899832a2c3354aaee4def4dcee744e", func := "sledge/sledgelaw14.DagEdges", spec := "dagEdges", unfollowed := true, recurses := true, plainKeys := false, apart := false, narrowed := true }
def DagEdgesUptoSaid : Prop := dagEdgesUptoRow.holds Try.pinned (OpenSpec.upto dagEdgesSpec)

/-- 'sledgelaw14.DagHigh', WHERE WHAT IT READS IS OF BULK AT MOST 1048576: true; the input reads as it did. -/
def dagHighUptoRow : OpenClaim := { program := "ytibfkkjkahpobaa", sum := "78e821a9b5bb82d83adb6f7b7ceb9f178f899832a2c3354aaee4def4dcee744e", func := "sledge/sledgelaw14.DagHigh", spec := "dagHigh", unfollowed := true, recurses := true, plainKeys := false, apart := false, narrowed := true }
def DagHighUptoSaid : Prop := dagHighUptoRow.holds Try.pinned (OpenSpec.upto dagHighSpec)

/-- 'sledgelaw14.DagLast', WHERE WHAT IT READS IS OF BULK AT MOST 1048576: true; the input reads as it did. -/
def dagLastUptoRow : OpenClaim := { program := "ytibfkkjkahpobaa", sum := "78e821a9b5bb82d83adb6f7b7ceb9f178f899832a2c3354aaee4def4dcee744e", func := "sledge/sledgelaw14.DagLast", spec := "dagLast", unfollowed := true, recurses := true, plainKeys := false, apart := false, narrowed := true }
def DagLastUptoSaid : Prop := dagLastUptoRow.holds Try.pinned (OpenSpec.upto dagLastSpec)

/-- 'sledgelaw15.SchedChains', WHERE WHAT IT READS IS OF BULK AT MOST 1048576: true; the input reads as it did. -/
def schedChainsUptoRow : OpenClaim := { program := "ytibfkkjkahpobaa", sum := "78e821a9b5bb82d83adb6f7b7ceb9f178f899832a2c3354aaee4def4dcee744e", func := "sledge/sledgelaw15.SchedChains", spec := "schedChains", unfollowed := true, recurses := true, plainKeys := false, apart := false, narrowed := true }
def SchedChainsUptoSaid : Prop := schedChainsUptoRow.holds Try.pinned (OpenSpec.upto schedChainsSpec)

/-- 'sledgelaw15.SchedSlots', WHERE WHAT IT READS IS OF BULK AT MOST 1048576: true; the input reads as it did. -/
def schedSlotsUptoRow : OpenClaim := { program := "ytibfkkjkahpobaa", sum := "78e821a9b5bb82d83adb6f7b7ceb9f178f899832a2c3354aaee4def4dcee744e", func := "sledge/sledgelaw15.SchedSlots", spec := "schedSlots", unfollowed := true, recurses := true, plainKeys := false, apart := false, narrowed := true }
def SchedSlotsUptoSaid : Prop := schedSlotsUptoRow.holds Try.pinned (OpenSpec.upto schedSlotsSpec)

/-- 'sledgelaw15.SchedEffects', WHERE WHAT IT READS IS OF BULK AT MOST 1048576: true; the input reads as it did. -/
def schedEffectsUptoRow : OpenClaim := { program := "ytibfkkjkahpobaa", sum := "78e821a9b5bb82d83adb6f7b7ceb9f178f899832a2c3354aaee4def4dcee744e", func := "sledge/sledgelaw15.SchedEffects", spec := "schedEffects", unfollowed := true, recurses := true, plainKeys := false, apart := false, narrowed := true }
def SchedEffectsUptoSaid : Prop := schedEffectsUptoRow.holds Try.pinned (OpenSpec.upto schedEffectsSpec)

/-- 'sledgelaw15.SchedEnds', WHERE WHAT IT READS IS OF BULK AT MOST 1048576: true; the input reads as it did. -/
def schedEndsUptoRow : OpenClaim := { program := "ytibfkkjkahpobaa", sum := "78e821a9b5bb82d83adb6f7b7ceb9f178f899832a2c3354aaee4def4dcee744e", func := "sledge/sledgelaw15.SchedEnds", spec := "schedEnds", unfollowed := true, recurses := true, plainKeys := false, apart := false, narrowed := true }
def SchedEndsUptoSaid : Prop := schedEndsUptoRow.holds Try.pinned (OpenSpec.upto schedEndsSpec)

/-- 'sledgelaw15.SchedUrges', WHERE WHAT IT READS IS OF BULK AT MOST 1048576: true; the input reads as it did. -/
def schedUrgesUptoRow : OpenClaim := { program := "ytibfkkjkahpobaa", sum := "78e821a9b5bb82d83adb6f7b7ceb9f178f899832a2c3354aaee4def4dcee744e", func := "sledge/sledgelaw15.SchedUrges", spec := "schedUrges", unfollowed := true, recurses := true, plainKeys := false, apart := false, narrowed := true }
def SchedUrgesUptoSaid : Prop := schedUrgesUptoRow.holds Try.pinned (OpenSpec.upto schedUrgesSpec)

/-- 'sledgelaw15.SchedMixed', WHERE WHAT IT READS IS OF BULK AT MOST 1048576: true; the input reads as it did. -/
def schedMixedUptoRow : OpenClaim := { program := "ytibfkkjkahpobaa", sum := "78e821a9b5bb82d83adb6f7b7ceb9f178f899832a2c3354aaee4def4dcee744e", func := "sledge/sledgelaw15.SchedMixed", spec := "schedMixed", unfollowed := true, recurses := true, plainKeys := false, apart := false, narrowed := true }
def SchedMixedUptoSaid : Prop := schedMixedUptoRow.holds Try.pinned (OpenSpec.upto schedMixedSpec)

/-- 'sledgelaw15.SchedHolds', WHERE WHAT IT READS IS OF BULK AT MOST 1048576: true; the input reads as it did. -/
def schedHoldsUptoRow : OpenClaim := { program := "ytibfkkjkahpobaa", sum := "78e821a9b5bb82d83adb6f7b7ceb9f178f899832a2c3354aaee4def4dcee744e", func := "sledge/sledgelaw15.SchedHolds", spec := "schedHolds", unfollowed := true, recurses := true, plainKeys := false, apart := false, narrowed := true }
def SchedHoldsUptoSaid : Prop := schedHoldsUptoRow.holds Try.pinned (OpenSpec.upto schedHoldsSpec)

end Rows
end Go.Proofs.Ytibfkkjkahpobaa
