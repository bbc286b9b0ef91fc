-- the texts that this claim needs, out of this session's and its print's (wip/shrink.py)
import Derived.Test.YtfnchdlgkkdegaaRows
import Derived.Test.YtfnchdlgkkdegaaOpensT
import Derived.Test.YtfnchdlgkkdegaaPAllx0T
import Derived.ProofKit
import Derived.OpenShut
import Derived.ShutString
import Derived.ChangeOld
import Derived.SizedLaws
namespace Go.Proofs.Ytfnchdlgkkdegaa.PAll
open Go.ChangeShapes Go.WideShapes Go.ChangeAt Go.RowKit Go.Proofs.YtfnchdlgkkdegaaW.PrintWords
set_option linter.unusedVariables false
theorem own : ownKnob Try.prog.godebug = none := by kernel_rfl
theorem laidOut : laidOutB Try.prog = true := by kernel_rfl
instance : Inhabited S35 := ⟨z35⟩
instance : Inhabited S52 := ⟨z52⟩
def Q35 (x : S35) : Prop := IntOk .i64 x.f0 ∧ IntOk .i64 x.f1 ∧ IntOk .i64 x.f2 ∧ IntOk .i64 x.f3 ∧ IntOk .i64 x.f4 ∧ StrOk x.f5
def Q52 (x : S52) : Prop := Q35 x.f0 ∧ Q35 x.f1 ∧ Q35 x.f2 ∧ Q35 x.f3
theorem opens3 : Opens Try.prog 3 (Kd.int .i64) (IntOk .i64) := opens_int Try.underlying3
theorem opens9 : Opens Try.prog 9 Kd.string StrOk := opens_string Try.underlying9
theorem opens33 : Opens Try.prog 33 (Kd.int .u32) (IntOk .u32) := opens_int Try.underlying33
theorem opens35 : Opens Try.prog 35 k35 Q35 :=
  opens_iso (fun x : S35 => (x.f0, x.f1, x.f2, x.f3, x.f4, x.f5)) (fun x => ⟨x.1, x.2.1, x.2.2.1, x.2.2.2.1, x.2.2.2.2.1, x.2.2.2.2.2⟩) (fun _ => rfl)
    (opens_struct Try.underlying35 (by kernel_rfl)
      (opensAt_cons (by kernel_rfl) opens3 (opensAt_cons (by kernel_rfl) opens3 (opensAt_cons (by kernel_rfl) opens3 (opensAt_cons (by kernel_rfl) opens3 (opensAt_cons (by kernel_rfl) opens3 (opensAt_last (by kernel_rfl) opens9)))))))
theorem cells35 : Try.prog.cellsOf 35 = 6 := by kernel_rfl
theorem opens52 : Opens Try.prog 52 k52 Q52 :=
  opens_iso (fun x : S52 => (x.f0, x.f1, x.f2, x.f3)) (fun x => ⟨x.1, x.2.1, x.2.2.1, x.2.2.2⟩) (fun _ => rfl)
    (opens_array Try.underlying52 (by kernel_rfl) (by
      rw [cells35]
      exact opensAt_cons (by kernel_rfl) opens35 (opensAt_cons (by kernel_rfl) opens35 (opensAt_cons (by kernel_rfl) opens35 (opensAt_last (by kernel_rfl) opens35)))))
theorem opens22 : Opens Try.prog 22 (Kd.slice 35 k35) (RowOk 56 Q35) := opens_slice Try.underlying22 (by kernel_rfl) (by kernel_rfl) opens35
theorem opens23 : Opens Try.prog 23 (Kd.slice 9 Kd.string) (RowOk 16 StrOk) := opens_slice Try.underlying23 (by kernel_rfl) (by kernel_rfl) opens9
theorem opens26 : Opens Try.prog 26 (Kd.slice 33 (Kd.int .u32)) (RowOk 4 (IntOk .u32)) := opens_slice Try.underlying26 (by kernel_rfl) (by kernel_rfl) opens33
theorem opens27 : Opens Try.prog 27 (Kd.slice 3 (Kd.int .i64)) (RowOk 8 (IntOk .i64)) := opens_slice Try.underlying27 (by kernel_rfl) (by kernel_rfl) opens3
theorem opens30 : Opens Try.prog 30 (Kd.slice 52 k52) (RowOk 224 Q52) := opens_slice Try.underlying30 (by kernel_rfl) (by kernel_rfl) opens52
theorem opens25 : Opens Try.prog 25 (Kd.pair (Kd.slice 35 k35) (Kd.slice 9 Kd.string)) (And2 (RowOk 56 Q35) (RowOk 16 StrOk)) := opens_struct Try.underlying25 (by kernel_rfl) (opensAt_cons (by kernel_rfl) opens22 (opensAt_last (by kernel_rfl) opens23))
theorem opens29 : Opens Try.prog 29 (Kd.pair (Kd.slice 33 (Kd.int .u32)) (Kd.slice 3 (Kd.int .i64))) (And2 (RowOk 4 (IntOk .u32)) (RowOk 8 (IntOk .i64))) := opens_struct Try.underlying29 (by kernel_rfl) (opensAt_cons (by kernel_rfl) opens26 (opensAt_last (by kernel_rfl) opens27))
theorem opens32 : Opens Try.prog 32 (Kd.pair (Kd.pair (Kd.slice 35 k35) (Kd.slice 9 Kd.string)) (Kd.pair (Kd.pair (Kd.slice 33 (Kd.int .u32)) (Kd.slice 3 (Kd.int .i64))) (Kd.slice 52 k52))) (And2 (And2 (RowOk 56 Q35) (RowOk 16 StrOk)) (And2 (And2 (RowOk 4 (IntOk .u32)) (RowOk 8 (IntOk .i64))) (RowOk 224 Q52))) :=
  opens_struct Try.underlying32 (by kernel_rfl) (opensAt_cons (by kernel_rfl) opens25 (opensAt_cons (by kernel_rfl) opens29 (opensAt_last (by kernel_rfl) opens30)))
def InAsk (lI : List S35) (lS : List ByteArray) (lW lN : List Int) (lB : List S52) : Prop :=
  RowOk 56 Q35 lI ∧ RowOk 16 StrOk lS ∧ RowOk 4 (IntOk .u32) lW ∧ RowOk 8 (IntOk .i64) lN ∧ RowOk 224 Q52 lB
def LawWalk (n : Nat) : Prop :=
  ∀ (A0 : Option Addr) (c0 : Nat) (lI : List S35) (A1 : Option Addr) (c1 : Nat) (lS : List ByteArray) (A2 : Option Addr) (c2 : Nat) (lW : List Int) (A3 : Option Addr) (c3 : Nat) (lN : List Int) (A4 : Option Addr) (c4 : Nat) (lB : List S52) (w : World),
    Kd.C k35 w A0 lI.length lI → lI.length ≤ c0 → Kd.C Kd.string w A1 lS.length lS → lS.length ≤ c1 → Kd.C (Kd.int .u32) w A2 lW.length lW → lW.length ≤ c2 → Kd.C (Kd.int .i64) w A3 lN.length lN → lN.length ≤ c3 → Kd.C k52 w A4 lB.length lB → lB.length ≤ c4 →
    InAsk lI lS lW lN lB →
    Calls Try.prog n #[.agg #[.slice A0 lI.length c0, .slice A1 lS.length c1, .slice A2 lW.length c2, .slice A3 lN.length c3, .slice A4 lB.length c4]] w fun e w' => e = .returned (.bool true) ∧ Below w.heap.size w w'
theorem ask_open {H : Type} {enc : TypeId × Value → H} {W : World} {base : Nat} {v : Value} {d : DataW H} {p : List MemPlace} (hv : ∃ cs, v = .agg cs ∧ cs.size = Try.prog.cellsOf 32 ∧ Row.okWide Try.prog W .any base 32 cs)
    (h : DataW.Trod enc Try.prog W 0 (fun _ => true) true 32 v d p) (hw : ∀ n ∈ d.weights Try.prog 32, n ≤ reachBytes) :
    ∃ (A0 : Option Addr) (c0 : Nat) (lI : List S35) (A1 : Option Addr) (c1 : Nat) (lS : List ByteArray) (A2 : Option Addr) (c2 : Nat) (lW : List Int) (A3 : Option Addr) (c3 : Nat) (lN : List Int) (A4 : Option Addr) (c4 : Nat) (lB : List S52),
      v = .agg #[.slice A0 lI.length c0, .slice A1 lS.length c1, .slice A2 lW.length c2, .slice A3 lN.length c3, .slice A4 lB.length c4] ∧
      Kd.C k35 W A0 lI.length lI ∧ lI.length ≤ c0 ∧ Kd.C Kd.string W A1 lS.length lS ∧ lS.length ≤ c1 ∧ Kd.C (Kd.int .u32) W A2 lW.length lW ∧ lW.length ≤ c2 ∧ Kd.C (Kd.int .i64) W A3 lN.length lN ∧ lN.length ≤ c3 ∧ Kd.C k52 W A4 lB.length lB ∧ lB.length ≤ c4 ∧ InAsk lI lS lW lN lB := by
  obtain ⟨cs, rfl, _, _⟩ := hv
  obtain ⟨fuel, hf⟩ := h
  obtain ⟨x, hx, hq⟩ := opens32 enc W fuel _ (d, p) hf hw
  obtain ⟨⟨lI, lS⟩, ⟨lW, lN⟩, lB⟩ := x
  obtain ⟨_, _, he, ⟨_, _, rfl, ⟨A0, c0, rfl, h0, g0⟩, ⟨A1, c1, rfl, h1, g1⟩⟩, ⟨_, _, rfl, ⟨_, _, rfl, ⟨A2, c2, rfl, h2, g2⟩, ⟨A3, c3, rfl, h3, g3⟩⟩, ⟨A4, c4, rfl, h4, g4⟩⟩⟩ := hx
  refine ⟨A0, c0, lI, A1, c1, lS, A2, c2, lW, A3, c3, lN, A4, c4, lB, ?_, g0, h0, g1, h1, g2, h2, g3, h3, g4, h4, ?_⟩
  · rw [show cs = #[.slice A0 lI.length c0, .slice A1 lS.length c1, .slice A2 lW.length c2, .slice A3 lN.length c3, .slice A4 lB.length c4] from ?_]
    apply Array.toList_inj.1
    simpa [Value.cells] using he
  · exact ⟨hq.1.1, hq.1.2, hq.2.1.1, hq.2.1.2, hq.2.2⟩
end Go.Proofs.Ytfnchdlgkkdegaa.PAll
