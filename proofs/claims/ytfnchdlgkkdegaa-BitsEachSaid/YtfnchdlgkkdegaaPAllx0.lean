-- written by this session's changed print (wip/myprint)
import Derived.Test.YtfnchdlgkkdegaaProg
import Derived.Below
import Derived.Deep.Draws
import Derived.Deep.AppendLies
import Derived.Maps.AppendAt
import Derived.OwnWalk
import Derived.Laws.BytesArg
import Derived.Laws.MakeOwn
import Derived.Laws.OwnMore
import Derived.Deep.OwnRows
import Derived.Tactics
import Derived.Lib.ConvBytes
import Derived.Laws.Slices
import Derived.WalkKit
import Derived.KernelRfl
import Derived.RowKit3
import Derived.Deep.LoopGhost
import Derived.Deep.QuietTactic
import Derived.BigQuiet
import Derived.WideLaws
import Derived.Deep.DeepCutAuto
import Derived.Deep.CutBlock
import Derived.Deep.RegionHeld3
import Derived.Laws.Rows
import Derived.Lib.AppendStr
import Derived.ArgAppend
import Derived.Laws.IdiomCopy
import Derived.OrdersHeld
import Derived.Laws.BitsLemmas
import Derived.RowKit
import Derived.Test.YtfnchdlgkkdegaaWWords
import Derived.Test.YtfnchdlgkkdegaaWLast
import Derived.Test.YtfnchdlgkkdegaaWTab
import Derived.Test.YtfnchdlgkkdegaaWQPut
import Derived.Test.YtfnchdlgkkdegaaWApart
import Derived.Test.YtfnchdlgkkdegaaWArr
import Derived.Test.YtfnchdlgkkdegaaWZeros
import Derived.Test.YtfnchdlgkkdegaaWFoot
import Derived.Test.YtfnchdlgkkdegaaWKept
import Derived.Test.YtfnchdlgkkdegaaWShare
import Derived.Test.YtfnchdlgkkdegaaWN
import Derived.Test.YtfnchdlgkkdegaaWEqStruct
import Derived.Test.YtfnchdlgkkdegaaWRepsOne
import Derived.Test.YtfnchdlgkkdegaaWNEv
import Derived.Test.YtfnchdlgkkdegaaWMore
namespace Go.Proofs.Ytfnchdlgkkdegaa.PAll
open Go.RowKit Go.Proofs.YtfnchdlgkkdegaaW.PrintWords Go.Proofs.YtfnchdlgkkdegaaW.PrintLast Go.Proofs.YtfnchdlgkkdegaaW.PrintMore
attribute [local go_sem] max2_int min2_int max_two min_two max_three min_three max_four min_four   -- for this text's walks alone
set_option linter.unusedVariables false
set_option linter.unusedSimpArgs false



def errW : Option Int → Value
  | none => .nilIface
  | some c => .iface 0 (.int .i64 c)
theorem errW_none : errW none = .nilIface := rfl
theorem errW_some (c : Int) : errW (some c) = .iface 0 (.int .i64 c) := rfl
theorem my_eq_nil (l : List UInt8) : (l == (⟨#[]⟩ : ByteArray).toList) = l.isEmpty := by
  have h_ : (⟨#[]⟩ : ByteArray).toList = [] := by simp
  rw [h_]; cases l <;> rfl

theorem info3 : (Try.prog.info? 3).map (fun i => (i.zero, i.size, i.bytes)) = some (some (.int .i64 0), 1, 8) := by kernel_rfl
theorem info33 : (Try.prog.info? 33).map (fun i => (i.zero, i.size, i.bytes)) = some (some (.int .u32 0), 1, 4) := by kernel_rfl
-- the values' own types
/-! #### struct type 35 -/
structure S35 where
  f0 : Int
  f1 : Int
  f2 : Int
  f3 : Int
  f4 : Int
  f5 : ByteArray
def z35 : S35 := ⟨(0 : Int), (0 : Int), (0 : Int), (0 : Int), (0 : Int), (⟨#[]⟩ : ByteArray)⟩
def k35 : Kd S35 := Kd.iso (Kd.pair (Kd.int .i64) (Kd.pair (Kd.int .i64) (Kd.pair (Kd.int .i64) (Kd.pair (Kd.int .i64) (Kd.pair (Kd.int .i64) Kd.string))))) (fun x : S35 => (x.f0, x.f1, x.f2, x.f3, x.f4, x.f5))
theorem k35_open {w : World} {x : S35} {cs : List Value} (h : k35.K w x cs) : cs = [.int .i64 x.f0, .int .i64 x.f1, .int .i64 x.f2, .int .i64 x.f3, .int .i64 x.f4, .string x.f5] := by
  obtain ⟨_, _, rfl, rfl, ⟨_, _, rfl, rfl, ⟨_, _, rfl, rfl, ⟨_, _, rfl, rfl, ⟨_, _, rfl, rfl, rfl⟩⟩⟩⟩⟩ := h
  exact rfl
theorem k35_openM {w : World} {base : Nat} {ok : Nat → Prop} {x : S35} {cs : List Value} (h : k35.M w base ok x cs) : cs = [.int .i64 x.f0, .int .i64 x.f1, .int .i64 x.f2, .int .i64 x.f3, .int .i64 x.f4, .string x.f5] := by
  obtain ⟨_, _, rfl, rfl, ⟨_, _, rfl, rfl, ⟨_, _, rfl, rfl, ⟨_, _, rfl, rfl, ⟨_, _, rfl, rfl, rfl⟩⟩⟩⟩⟩ := h
  exact rfl
theorem k35_mk (w : World) (x : S35)  : k35.K w x [.int .i64 x.f0, .int .i64 x.f1, .int .i64 x.f2, .int .i64 x.f3, .int .i64 x.f4, .string x.f5] := ⟨[.int .i64 x.f0], [.int .i64 x.f1, .int .i64 x.f2, .int .i64 x.f3, .int .i64 x.f4, .string x.f5], rfl, rfl, ⟨[.int .i64 x.f1], [.int .i64 x.f2, .int .i64 x.f3, .int .i64 x.f4, .string x.f5], rfl, rfl, ⟨[.int .i64 x.f2], [.int .i64 x.f3, .int .i64 x.f4, .string x.f5], rfl, rfl, ⟨[.int .i64 x.f3], [.int .i64 x.f4, .string x.f5], rfl, rfl, ⟨[.int .i64 x.f4], [.string x.f5], rfl, rfl, rfl⟩⟩⟩⟩⟩
theorem k35_mkM (w : World) (base : Nat) (ok : Nat → Prop) (x : S35)  : k35.M w base ok x [.int .i64 x.f0, .int .i64 x.f1, .int .i64 x.f2, .int .i64 x.f3, .int .i64 x.f4, .string x.f5] := ⟨[.int .i64 x.f0], [.int .i64 x.f1, .int .i64 x.f2, .int .i64 x.f3, .int .i64 x.f4, .string x.f5], rfl, rfl, ⟨[.int .i64 x.f1], [.int .i64 x.f2, .int .i64 x.f3, .int .i64 x.f4, .string x.f5], rfl, rfl, ⟨[.int .i64 x.f2], [.int .i64 x.f3, .int .i64 x.f4, .string x.f5], rfl, rfl, ⟨[.int .i64 x.f3], [.int .i64 x.f4, .string x.f5], rfl, rfl, ⟨[.int .i64 x.f4], [.string x.f5], rfl, rfl, rfl⟩⟩⟩⟩⟩
def rd_T35 (xs : List S35) (i : Int) : S35 := xs.getD i.toNat z35
theorem at_T35 {w : World} {A : Option Addr} {n : Nat} {xs : List S35} (h : Kd.C k35 w A n xs) (i : Int) (h0 : 0 ≤ i) (h1 : i < n) : ∃ ad , A = some ad ∧ w.cell? (ad.add (i.toNat * 6)) = some (.int .i64 (rd_T35 xs i).f0) ∧ w.cell? ⟨(ad.add (i.toNat * 6)).block, (ad.add (i.toNat * 6)).off + 1, none⟩ = some (.int .i64 (rd_T35 xs i).f1) ∧ w.cell? ⟨(ad.add (i.toNat * 6)).block, (ad.add (i.toNat * 6)).off + 2, none⟩ = some (.int .i64 (rd_T35 xs i).f2) ∧ w.cell? ⟨(ad.add (i.toNat * 6)).block, (ad.add (i.toNat * 6)).off + 3, none⟩ = some (.int .i64 (rd_T35 xs i).f3) ∧ w.cell? ⟨(ad.add (i.toNat * 6)).block, (ad.add (i.toNat * 6)).off + 4, none⟩ = some (.int .i64 (rd_T35 xs i).f4) ∧ w.cell? ⟨(ad.add (i.toNat * 6)).block, (ad.add (i.toNat * 6)).off + 5, none⟩ = some (.string (rd_T35 xs i).f5) := by
  obtain ⟨ad, c, e, _, hK, hc0⟩ := Kd.C_get h z35 i h0 h1
  have hc : ∀ j u, c[j]? = some u → w.cell? (ad.add (i.toNat * 6 + j)) = some u := hc0
  obtain rfl := k35_open hK
  exact ⟨ad, e, hc 0 _ rfl, by rw [← add_field _ _ 1 (by omega)]; exact hc 1 _ rfl, by rw [← add_field _ _ 2 (by omega)]; exact hc 2 _ rfl, by rw [← add_field _ _ 3 (by omega)]; exact hc 3 _ rfl, by rw [← add_field _ _ 4 (by omega)]; exact hc 4 _ rfl, by rw [← add_field _ _ 5 (by omega)]; exact hc 5 _ rfl⟩

/-! #### struct type 52 -/
structure S52 where
  f0 : S35
  f1 : S35
  f2 : S35
  f3 : S35
def z52 : S52 := ⟨z35, z35, z35, z35⟩
def k52 : Kd S52 := Kd.iso (Kd.pair k35 (Kd.pair k35 (Kd.pair k35 k35))) (fun x : S52 => (x.f0, x.f1, x.f2, x.f3))
theorem k52_open {w : World} {x : S52} {cs : List Value} (h : k52.K w x cs) : cs = [.int .i64 x.f0.f0, .int .i64 x.f0.f1, .int .i64 x.f0.f2, .int .i64 x.f0.f3, .int .i64 x.f0.f4, .string x.f0.f5, .int .i64 x.f1.f0, .int .i64 x.f1.f1, .int .i64 x.f1.f2, .int .i64 x.f1.f3, .int .i64 x.f1.f4, .string x.f1.f5, .int .i64 x.f2.f0, .int .i64 x.f2.f1, .int .i64 x.f2.f2, .int .i64 x.f2.f3, .int .i64 x.f2.f4, .string x.f2.f5, .int .i64 x.f3.f0, .int .i64 x.f3.f1, .int .i64 x.f3.f2, .int .i64 x.f3.f3, .int .i64 x.f3.f4, .string x.f3.f5] := by
  obtain ⟨_, _, rfl, s0, ⟨_, _, rfl, s6, ⟨_, _, rfl, s12, s18⟩⟩⟩ := h
  obtain rfl := k35_open s0
  obtain rfl := k35_open s6
  obtain rfl := k35_open s12
  obtain rfl := k35_open s18
  exact rfl
theorem k52_openM {w : World} {base : Nat} {ok : Nat → Prop} {x : S52} {cs : List Value} (h : k52.M w base ok x cs) : cs = [.int .i64 x.f0.f0, .int .i64 x.f0.f1, .int .i64 x.f0.f2, .int .i64 x.f0.f3, .int .i64 x.f0.f4, .string x.f0.f5, .int .i64 x.f1.f0, .int .i64 x.f1.f1, .int .i64 x.f1.f2, .int .i64 x.f1.f3, .int .i64 x.f1.f4, .string x.f1.f5, .int .i64 x.f2.f0, .int .i64 x.f2.f1, .int .i64 x.f2.f2, .int .i64 x.f2.f3, .int .i64 x.f2.f4, .string x.f2.f5, .int .i64 x.f3.f0, .int .i64 x.f3.f1, .int .i64 x.f3.f2, .int .i64 x.f3.f3, .int .i64 x.f3.f4, .string x.f3.f5] := by
  obtain ⟨_, _, rfl, s0, ⟨_, _, rfl, s6, ⟨_, _, rfl, s12, s18⟩⟩⟩ := h
  obtain rfl := k35_openM s0
  obtain rfl := k35_openM s6
  obtain rfl := k35_openM s12
  obtain rfl := k35_openM s18
  exact rfl
theorem k52_mk (w : World) (x : S52)  : k52.K w x [.int .i64 x.f0.f0, .int .i64 x.f0.f1, .int .i64 x.f0.f2, .int .i64 x.f0.f3, .int .i64 x.f0.f4, .string x.f0.f5, .int .i64 x.f1.f0, .int .i64 x.f1.f1, .int .i64 x.f1.f2, .int .i64 x.f1.f3, .int .i64 x.f1.f4, .string x.f1.f5, .int .i64 x.f2.f0, .int .i64 x.f2.f1, .int .i64 x.f2.f2, .int .i64 x.f2.f3, .int .i64 x.f2.f4, .string x.f2.f5, .int .i64 x.f3.f0, .int .i64 x.f3.f1, .int .i64 x.f3.f2, .int .i64 x.f3.f3, .int .i64 x.f3.f4, .string x.f3.f5] := ⟨[.int .i64 x.f0.f0, .int .i64 x.f0.f1, .int .i64 x.f0.f2, .int .i64 x.f0.f3, .int .i64 x.f0.f4, .string x.f0.f5], [.int .i64 x.f1.f0, .int .i64 x.f1.f1, .int .i64 x.f1.f2, .int .i64 x.f1.f3, .int .i64 x.f1.f4, .string x.f1.f5, .int .i64 x.f2.f0, .int .i64 x.f2.f1, .int .i64 x.f2.f2, .int .i64 x.f2.f3, .int .i64 x.f2.f4, .string x.f2.f5, .int .i64 x.f3.f0, .int .i64 x.f3.f1, .int .i64 x.f3.f2, .int .i64 x.f3.f3, .int .i64 x.f3.f4, .string x.f3.f5], rfl, (k35_mk w x.f0 ), ⟨[.int .i64 x.f1.f0, .int .i64 x.f1.f1, .int .i64 x.f1.f2, .int .i64 x.f1.f3, .int .i64 x.f1.f4, .string x.f1.f5], [.int .i64 x.f2.f0, .int .i64 x.f2.f1, .int .i64 x.f2.f2, .int .i64 x.f2.f3, .int .i64 x.f2.f4, .string x.f2.f5, .int .i64 x.f3.f0, .int .i64 x.f3.f1, .int .i64 x.f3.f2, .int .i64 x.f3.f3, .int .i64 x.f3.f4, .string x.f3.f5], rfl, (k35_mk w x.f1 ), ⟨[.int .i64 x.f2.f0, .int .i64 x.f2.f1, .int .i64 x.f2.f2, .int .i64 x.f2.f3, .int .i64 x.f2.f4, .string x.f2.f5], [.int .i64 x.f3.f0, .int .i64 x.f3.f1, .int .i64 x.f3.f2, .int .i64 x.f3.f3, .int .i64 x.f3.f4, .string x.f3.f5], rfl, (k35_mk w x.f2 ), (k35_mk w x.f3 )⟩⟩⟩
theorem k52_mkM (w : World) (base : Nat) (ok : Nat → Prop) (x : S52)  : k52.M w base ok x [.int .i64 x.f0.f0, .int .i64 x.f0.f1, .int .i64 x.f0.f2, .int .i64 x.f0.f3, .int .i64 x.f0.f4, .string x.f0.f5, .int .i64 x.f1.f0, .int .i64 x.f1.f1, .int .i64 x.f1.f2, .int .i64 x.f1.f3, .int .i64 x.f1.f4, .string x.f1.f5, .int .i64 x.f2.f0, .int .i64 x.f2.f1, .int .i64 x.f2.f2, .int .i64 x.f2.f3, .int .i64 x.f2.f4, .string x.f2.f5, .int .i64 x.f3.f0, .int .i64 x.f3.f1, .int .i64 x.f3.f2, .int .i64 x.f3.f3, .int .i64 x.f3.f4, .string x.f3.f5] := ⟨[.int .i64 x.f0.f0, .int .i64 x.f0.f1, .int .i64 x.f0.f2, .int .i64 x.f0.f3, .int .i64 x.f0.f4, .string x.f0.f5], [.int .i64 x.f1.f0, .int .i64 x.f1.f1, .int .i64 x.f1.f2, .int .i64 x.f1.f3, .int .i64 x.f1.f4, .string x.f1.f5, .int .i64 x.f2.f0, .int .i64 x.f2.f1, .int .i64 x.f2.f2, .int .i64 x.f2.f3, .int .i64 x.f2.f4, .string x.f2.f5, .int .i64 x.f3.f0, .int .i64 x.f3.f1, .int .i64 x.f3.f2, .int .i64 x.f3.f3, .int .i64 x.f3.f4, .string x.f3.f5], rfl, (k35_mkM w base ok x.f0 ), ⟨[.int .i64 x.f1.f0, .int .i64 x.f1.f1, .int .i64 x.f1.f2, .int .i64 x.f1.f3, .int .i64 x.f1.f4, .string x.f1.f5], [.int .i64 x.f2.f0, .int .i64 x.f2.f1, .int .i64 x.f2.f2, .int .i64 x.f2.f3, .int .i64 x.f2.f4, .string x.f2.f5, .int .i64 x.f3.f0, .int .i64 x.f3.f1, .int .i64 x.f3.f2, .int .i64 x.f3.f3, .int .i64 x.f3.f4, .string x.f3.f5], rfl, (k35_mkM w base ok x.f1 ), ⟨[.int .i64 x.f2.f0, .int .i64 x.f2.f1, .int .i64 x.f2.f2, .int .i64 x.f2.f3, .int .i64 x.f2.f4, .string x.f2.f5], [.int .i64 x.f3.f0, .int .i64 x.f3.f1, .int .i64 x.f3.f2, .int .i64 x.f3.f3, .int .i64 x.f3.f4, .string x.f3.f5], rfl, (k35_mkM w base ok x.f2 ), (k35_mkM w base ok x.f3 )⟩⟩⟩
def rd_T52 (xs : List S52) (i : Int) : S52 := xs.getD i.toNat z52
theorem at_T52 {w : World} {A : Option Addr} {n : Nat} {xs : List S52} (h : Kd.C k52 w A n xs) (i : Int) (h0 : 0 ≤ i) (h1 : i < n) : ∃ ad , A = some ad ∧ w.cell? (ad.add (i.toNat * 24)) = some (.int .i64 (rd_T52 xs i).f0.f0) ∧ w.cell? ⟨(ad.add (i.toNat * 24)).block, (ad.add (i.toNat * 24)).off + 1, none⟩ = some (.int .i64 (rd_T52 xs i).f0.f1) ∧ w.cell? ⟨(ad.add (i.toNat * 24)).block, (ad.add (i.toNat * 24)).off + 2, none⟩ = some (.int .i64 (rd_T52 xs i).f0.f2) ∧ w.cell? ⟨(ad.add (i.toNat * 24)).block, (ad.add (i.toNat * 24)).off + 3, none⟩ = some (.int .i64 (rd_T52 xs i).f0.f3) ∧ w.cell? ⟨(ad.add (i.toNat * 24)).block, (ad.add (i.toNat * 24)).off + 4, none⟩ = some (.int .i64 (rd_T52 xs i).f0.f4) ∧ w.cell? ⟨(ad.add (i.toNat * 24)).block, (ad.add (i.toNat * 24)).off + 5, none⟩ = some (.string (rd_T52 xs i).f0.f5) ∧ w.cell? ⟨(ad.add (i.toNat * 24)).block, (ad.add (i.toNat * 24)).off + 6, none⟩ = some (.int .i64 (rd_T52 xs i).f1.f0) ∧ w.cell? ⟨(ad.add (i.toNat * 24)).block, (ad.add (i.toNat * 24)).off + 7, none⟩ = some (.int .i64 (rd_T52 xs i).f1.f1) ∧ w.cell? ⟨(ad.add (i.toNat * 24)).block, (ad.add (i.toNat * 24)).off + 8, none⟩ = some (.int .i64 (rd_T52 xs i).f1.f2) ∧ w.cell? ⟨(ad.add (i.toNat * 24)).block, (ad.add (i.toNat * 24)).off + 9, none⟩ = some (.int .i64 (rd_T52 xs i).f1.f3) ∧ w.cell? ⟨(ad.add (i.toNat * 24)).block, (ad.add (i.toNat * 24)).off + 10, none⟩ = some (.int .i64 (rd_T52 xs i).f1.f4) ∧ w.cell? ⟨(ad.add (i.toNat * 24)).block, (ad.add (i.toNat * 24)).off + 11, none⟩ = some (.string (rd_T52 xs i).f1.f5) ∧ w.cell? ⟨(ad.add (i.toNat * 24)).block, (ad.add (i.toNat * 24)).off + 12, none⟩ = some (.int .i64 (rd_T52 xs i).f2.f0) ∧ w.cell? ⟨(ad.add (i.toNat * 24)).block, (ad.add (i.toNat * 24)).off + 13, none⟩ = some (.int .i64 (rd_T52 xs i).f2.f1) ∧ w.cell? ⟨(ad.add (i.toNat * 24)).block, (ad.add (i.toNat * 24)).off + 14, none⟩ = some (.int .i64 (rd_T52 xs i).f2.f2) ∧ w.cell? ⟨(ad.add (i.toNat * 24)).block, (ad.add (i.toNat * 24)).off + 15, none⟩ = some (.int .i64 (rd_T52 xs i).f2.f3) ∧ w.cell? ⟨(ad.add (i.toNat * 24)).block, (ad.add (i.toNat * 24)).off + 16, none⟩ = some (.int .i64 (rd_T52 xs i).f2.f4) ∧ w.cell? ⟨(ad.add (i.toNat * 24)).block, (ad.add (i.toNat * 24)).off + 17, none⟩ = some (.string (rd_T52 xs i).f2.f5) ∧ w.cell? ⟨(ad.add (i.toNat * 24)).block, (ad.add (i.toNat * 24)).off + 18, none⟩ = some (.int .i64 (rd_T52 xs i).f3.f0) ∧ w.cell? ⟨(ad.add (i.toNat * 24)).block, (ad.add (i.toNat * 24)).off + 19, none⟩ = some (.int .i64 (rd_T52 xs i).f3.f1) ∧ w.cell? ⟨(ad.add (i.toNat * 24)).block, (ad.add (i.toNat * 24)).off + 20, none⟩ = some (.int .i64 (rd_T52 xs i).f3.f2) ∧ w.cell? ⟨(ad.add (i.toNat * 24)).block, (ad.add (i.toNat * 24)).off + 21, none⟩ = some (.int .i64 (rd_T52 xs i).f3.f3) ∧ w.cell? ⟨(ad.add (i.toNat * 24)).block, (ad.add (i.toNat * 24)).off + 22, none⟩ = some (.int .i64 (rd_T52 xs i).f3.f4) ∧ w.cell? ⟨(ad.add (i.toNat * 24)).block, (ad.add (i.toNat * 24)).off + 23, none⟩ = some (.string (rd_T52 xs i).f3.f5) := by
  obtain ⟨ad, c, e, _, hK, hc0⟩ := Kd.C_get h z52 i h0 h1
  have hc : ∀ j u, c[j]? = some u → w.cell? (ad.add (i.toNat * 24 + j)) = some u := hc0
  obtain rfl := k52_open hK
  exact ⟨ad, e, hc 0 _ rfl, by rw [← add_field _ _ 1 (by omega)]; exact hc 1 _ rfl, by rw [← add_field _ _ 2 (by omega)]; exact hc 2 _ rfl, by rw [← add_field _ _ 3 (by omega)]; exact hc 3 _ rfl, by rw [← add_field _ _ 4 (by omega)]; exact hc 4 _ rfl, by rw [← add_field _ _ 5 (by omega)]; exact hc 5 _ rfl, by rw [← add_field _ _ 6 (by omega)]; exact hc 6 _ rfl, by rw [← add_field _ _ 7 (by omega)]; exact hc 7 _ rfl, by rw [← add_field _ _ 8 (by omega)]; exact hc 8 _ rfl, by rw [← add_field _ _ 9 (by omega)]; exact hc 9 _ rfl, by rw [← add_field _ _ 10 (by omega)]; exact hc 10 _ rfl, by rw [← add_field _ _ 11 (by omega)]; exact hc 11 _ rfl, by rw [← add_field _ _ 12 (by omega)]; exact hc 12 _ rfl, by rw [← add_field _ _ 13 (by omega)]; exact hc 13 _ rfl, by rw [← add_field _ _ 14 (by omega)]; exact hc 14 _ rfl, by rw [← add_field _ _ 15 (by omega)]; exact hc 15 _ rfl, by rw [← add_field _ _ 16 (by omega)]; exact hc 16 _ rfl, by rw [← add_field _ _ 17 (by omega)]; exact hc 17 _ rfl, by rw [← add_field _ _ 18 (by omega)]; exact hc 18 _ rfl, by rw [← add_field _ _ 19 (by omega)]; exact hc 19 _ rfl, by rw [← add_field _ _ 20 (by omega)]; exact hc 20 _ rfl, by rw [← add_field _ _ 21 (by omega)]; exact hc 21 _ rfl, by rw [← add_field _ _ 22 (by omega)]; exact hc 22 _ rfl, by rw [← add_field _ _ 23 (by omega)]; exact hc 23 _ rfl⟩

end Go.Proofs.Ytfnchdlgkkdegaa.PAll
