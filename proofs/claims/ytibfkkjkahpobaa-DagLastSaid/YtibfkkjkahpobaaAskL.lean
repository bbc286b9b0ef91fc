-- the texts that this claim needs, out of this session's and its print's (wip/shrink.py)
import Derived.Test.YtibfkkjkahpobaaRows
import Derived.Test.YtibfkkjkahpobaaOpensL
import Derived.Test.YtibfkkjkahpobaaPDagx0L
import Derived.ProofKit
import Derived.OpenShut
import Derived.ShutString
import Derived.ChangeOld
import Derived.SizedLaws
namespace Go.Proofs.Ytibfkkjkahpobaa.PDag
open Go.ChangeShapes Go.WideShapes Go.ChangeAt Go.RowKit Go.Proofs.YtibfkkjkahpobaaW.PrintWords
set_option linter.unusedVariables false
theorem own : ownKnob Try.prog.godebug = none := by kernel_rfl
theorem laidOut : laidOutB Try.prog = true := by kernel_rfl
instance : Inhabited S24 := ⟨z24⟩
def Q24 (x : S24) : Prop := IntOk .i64 x.f0 ∧ IntOk .i64 x.f1 ∧ IntOk .i64 x.f2 ∧ IntOk .i64 x.f3 ∧ IntOk .i64 x.f4 ∧ StrOk x.f5
theorem opens3 : Opens Try.prog 3 (Kd.int .i64) (IntOk .i64) := opens_int Try.underlying3
theorem opens9 : Opens Try.prog 9 Kd.string StrOk := opens_string Try.underlying9
theorem opens24 : Opens Try.prog 24 k24 Q24 :=
  opens_iso (fun x : S24 => (x.f0, x.f1, x.f2, x.f3, x.f4, x.f5)) (fun x => ⟨x.1, x.2.1, x.2.2.1, x.2.2.2.1, x.2.2.2.2.1, x.2.2.2.2.2⟩) (fun _ => rfl)
    (opens_struct Try.underlying24 (by kernel_rfl)
      (opensAt_cons (by kernel_rfl) opens3 (opensAt_cons (by kernel_rfl) opens3 (opensAt_cons (by kernel_rfl) opens3 (opensAt_cons (by kernel_rfl) opens3 (opensAt_cons (by kernel_rfl) opens3 (opensAt_last (by kernel_rfl) opens9)))))))
theorem opens22 : Opens Try.prog 22 (Kd.slice 24 k24) (RowOk 56 Q24) := opens_slice Try.underlying22 (by kernel_rfl) (by kernel_rfl) opens24
theorem opens25 : Opens Try.prog 25 (Kd.slice 3 (Kd.int .i64)) (RowOk 8 (IntOk .i64)) := opens_slice Try.underlying25 (by kernel_rfl) (by kernel_rfl) opens3
theorem opens27 : Opens Try.prog 27 (Kd.pair (Kd.slice 24 k24) (Kd.pair k24 (Kd.slice 3 (Kd.int .i64)))) (And2 (RowOk 56 Q24) (And2 Q24 (RowOk 8 (IntOk .i64)))) :=
  opens_struct Try.underlying27 (by kernel_rfl) (opensAt_cons (by kernel_rfl) opens22 (opensAt_cons (by kernel_rfl) opens24 (opensAt_last (by kernel_rfl) opens25)))
def InAsk (lI : List S24) (x : S24) (lN : List Int) : Prop := RowOk 56 Q24 lI ∧ Q24 x ∧ RowOk 8 (IntOk .i64) lN
def LawWalk (n : Nat) : Prop :=
  ∀ (A0 : Option Addr) (c0 : Nat) (lI : List S24) (x : S24) (A1 : Option Addr) (c1 : Nat) (lN : List Int) (w : World),
    Kd.C k24 w A0 lI.length lI → lI.length ≤ c0 → Kd.C (Kd.int .i64) w A1 lN.length lN → lN.length ≤ c1 → InAsk lI x lN →
    Calls Try.prog n #[.agg #[.slice A0 lI.length c0, .int .i64 x.f0, .int .i64 x.f1, .int .i64 x.f2, .int .i64 x.f3, .int .i64 x.f4, .string x.f5, .slice A1 lN.length c1]] w fun e w' => e = .returned (.bool true) ∧ Below w.heap.size w w'
theorem ask_open {H : Type} {enc : TypeId × Value → H} {W : World} {base : Nat} {v : Value} {d : DataW H} {p : List MemPlace} (hv : ∃ cs, v = .agg cs ∧ cs.size = Try.prog.cellsOf 27 ∧ Row.okWide Try.prog W .any base 27 cs)
    (h : DataW.Trod enc Try.prog W 0 (fun _ => true) true 27 v d p) (hw : ∀ n ∈ d.weights Try.prog 27, n ≤ reachBytes) :
    ∃ (A0 : Option Addr) (c0 : Nat) (lI : List S24) (x : S24) (A1 : Option Addr) (c1 : Nat) (lN : List Int),
      v = .agg #[.slice A0 lI.length c0, .int .i64 x.f0, .int .i64 x.f1, .int .i64 x.f2, .int .i64 x.f3, .int .i64 x.f4, .string x.f5, .slice A1 lN.length c1] ∧
      Kd.C k24 W A0 lI.length lI ∧ lI.length ≤ c0 ∧ Kd.C (Kd.int .i64) W A1 lN.length lN ∧ lN.length ≤ c1 ∧ InAsk lI x lN := by
  obtain ⟨cs, rfl, _, _⟩ := hv
  obtain ⟨fuel, hf⟩ := h
  obtain ⟨x, hx, hq⟩ := opens27 enc W fuel _ (d, p) hf hw
  obtain ⟨lI, x, lN⟩ := x
  obtain ⟨_, _, he, ⟨A0, c0, rfl, h0, g0⟩, ⟨_, _, rfl, hk, ⟨A1, c1, rfl, h1, g1⟩⟩⟩ := hx
  have hk' := k24_open hk
  subst hk'
  refine ⟨A0, c0, lI, x, A1, c1, lN, ?_, g0, h0, g1, h1, hq.1, hq.2.1, hq.2.2⟩
  rw [show cs = #[.slice A0 lI.length c0, .int .i64 x.f0, .int .i64 x.f1, .int .i64 x.f2, .int .i64 x.f3, .int .i64 x.f4, .string x.f5, .slice A1 lN.length c1] from ?_]
  apply Array.toList_inj.1
  simpa [Value.cells] using he
end Go.Proofs.Ytibfkkjkahpobaa.PDag
