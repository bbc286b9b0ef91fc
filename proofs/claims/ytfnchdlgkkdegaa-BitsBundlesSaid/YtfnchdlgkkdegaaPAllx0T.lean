-- the texts that this claim needs, out of this session's and its print's (wip/shrink.py)
import Derived.Test.YtfnchdlgkkdegaaProg
import Derived.Below
import Derived.Deep.Draws
import Derived.Deep.AppendLies
import Derived.Maps.AppendAt
import Derived.OwnWalk
import Derived.Laws.BytesArg
import Derived.Laws.MakeOwn
import Derived.Laws.OwnMore
import Derived.Deep.OwnRows
import Derived.Tactics
import Derived.Lib.ConvBytes
import Derived.Laws.Slices
import Derived.WalkKit
import Derived.KernelRfl
import Derived.RowKit3
import Derived.Deep.LoopGhost
import Derived.Deep.QuietTactic
import Derived.BigQuiet
import Derived.WideLaws
import Derived.Deep.DeepCutAuto
import Derived.Deep.CutBlock
import Derived.Deep.RegionHeld3
import Derived.Laws.Rows
import Derived.Lib.AppendStr
import Derived.ArgAppend
import Derived.Laws.IdiomCopy
import Derived.OrdersHeld
import Derived.Laws.BitsLemmas
import Derived.RowKit
import Derived.Test.YtfnchdlgkkdegaaWWordsT
import Derived.Test.YtfnchdlgkkdegaaWLastT
import Derived.Test.YtfnchdlgkkdegaaWTabT
import Derived.Test.YtfnchdlgkkdegaaWQPutT
import Derived.Test.YtfnchdlgkkdegaaWApartT
import Derived.Test.YtfnchdlgkkdegaaWArrT
import Derived.Test.YtfnchdlgkkdegaaWZerosT
import Derived.Test.YtfnchdlgkkdegaaWFootT
import Derived.Test.YtfnchdlgkkdegaaWKeptT
import Derived.Test.YtfnchdlgkkdegaaWShareT
import Derived.Test.YtfnchdlgkkdegaaWNT
import Derived.Test.YtfnchdlgkkdegaaWEqStructT
import Derived.Test.YtfnchdlgkkdegaaWRepsOneT
import Derived.Test.YtfnchdlgkkdegaaWNEvT
import Derived.Test.YtfnchdlgkkdegaaWMoreT
namespace Go.Proofs.Ytfnchdlgkkdegaa.PAll
open Go.RowKit Go.Proofs.YtfnchdlgkkdegaaW.PrintWords Go.Proofs.YtfnchdlgkkdegaaW.PrintLast Go.Proofs.YtfnchdlgkkdegaaW.PrintMore
attribute [local go_sem] max2_int min2_int max_two min_two max_three min_three max_four min_four   -- for this text's walks alone
set_option linter.unusedVariables false
set_option linter.unusedSimpArgs false
def errW : Option Int → Value
  | none => .nilIface
  | some c => .iface 0 (.int .i64 c)
theorem eN_ : errW none = .nilIface := rfl
theorem eS_ (c : Int) : errW (some c) = .iface 0 (.int .i64 c) := rfl
def bm (n x : Nat) : Array Bool := ((List.range n).map x.testBit).toArray
section
variable {P : Program} {ops : Array Oper} {Q : Exit → Act → World → Prop} {md : Region.Mode} {S : World → Prop} {ds : List Nat}
end
section
variable {P : Program} {ops : Array Oper} {Q : Exit → Act → World → Prop} {md : Region.Mode} {S : World → Prop} {ds : List Nat}
def SeqOn (P : Program) (ops : Array Oper) (S : World → Prop) (K : Act → Prop) : List (Nat × Option Tmp × Bool) → Act → Prop
  | [], a => K a
  | (i, N, r) :: is, a => ∃ oi v, ops[i]? = some oi ∧ oi.dst = N ∧ (if r = true then YieldsIf P ops S oi v a else Yields P ops oi v a) ∧ SeqOn P ops S K is (a.put N v)
theorem SeqOn.nil {K : Act → Prop} {a : Act} (h : K a) : SeqOn P ops S K [] a := h
theorem SeqOn.pure {K : Act → Prop} {i : Nat} {N : Option Tmp} {is : List (Nat × Option Tmp × Bool)} {a a' : Act} {oi : Oper} {v : Value} (hi : ops[i]? = some oi) (hN : oi.dst = N) (hy : Yields P ops oi v a) (ha : a.put N v = a') (h : SeqOn P ops S K is a') : SeqOn P ops S K ((i, N, false) :: is) a := by
 subst ha
 exact ⟨oi, v, hi, hN, hy, h⟩
theorem SeqOn.take {K : Act → Prop} {i : Nat} {N : Option Tmp} {is : List (Nat × Option Tmp × Bool)} {a a' : Act} {oi : Oper} {v : Value} (hi : ops[i]? = some oi) (hN : oi.dst = N) (hy : YieldsIf P ops S oi v a) (ha : a.put N v = a') (h : SeqOn P ops S K is a') : SeqOn P ops S K ((i, N, true) :: is) a := by
 subst ha
 exact ⟨oi, v, hi, hN, hy, h⟩
def seqB (md : Region.Mode) (ops : Array Oper) (ds : List Nat) : List (Nat × Option Tmp × Bool) → Array Bool → Array Bool → Bool
  | [], l, l' => l == l'
  | (i, _, r) :: is, l, l' => (if r = true then takeB md ops ds l (l.setIfInBounds i true) i else anyB md ops l (l.setIfInBounds i true) i) && seqB md ops ds is (l.setIfInBounds i true) l'
theorem seq_ {k n : Nat} {l : Array Bool} {a : Act} {w : World} (is : List (Nat × Option Tmp × Bool)) (l' : Array Bool) (hn : n = k + is.length) (hc : seqB md ops ds is l l' = true)
    (hQ0 : ∀ t v c a w, Q (.panic c) (a.put (some t) v) w → Q (.panic c) a w) (hS : S w) (h : SeqOn P ops S (fun a => wpAnyLast P md ops Q S ds k l' a w) is a) : wpAnyLast P md ops Q S ds n l a w := by
 have hQ : ∀ d v c a w, Q (.panic c) (a.put d v) w → Q (.panic c) a w := fun d v => by
  cases d with
  | none => exact fun _ _ _ h => h
  | some t => exact hQ0 t v
 subst hn
 induction is generalizing l a with
 | nil =>
  obtain rfl : l = l' := by simpa [seqB] using hc
  exact h
 | cons i is ih =>
  obtain ⟨i, N, r⟩ := i
  obtain ⟨oi, v, ho, hN, hy, h⟩ := h
  subst hN
  simp only [seqB, Bool.and_eq_true] at hc
  cases r with
  | false =>
   rw [if_neg (by decide)] at hy
   refine pure_ (fuel := k + is.length) (v := v) (a' := a.put oi.dst v) (l.setIfInBounds i true) ho rfl (by simpa using hc.1) (fun c a w => hQ _ _ c a w) hy rfl ?_
   exact ih hc.2 h
  | true =>
   rw [if_pos rfl] at hy
   refine take_ (fuel := k + is.length) (v := v) (a' := a.put oi.dst v) (l.setIfInBounds i true) ho rfl (by simpa using hc.1) (fun c a w => hQ _ _ c a w) hy hS rfl ?_
   exact ih hc.2 h
def seqT (T : Bool × List (List Nat × List Nat)) (B ds : List Nat) : List (Nat × Option Tmp × Bool) → List Bool → List Bool → Bool
  | [], l, l' => l == l'
  | (i, _, r) :: is, l, l' => (if r = true then takeW T B ds l (l.set i true) i else anyT T l (l.set i true) i) && seqT T B ds is (l.set i true) l'
theorem seq_of {T : Bool × List (List Nat × List Nat)} {B : List Nat} (hT : rtab md ops = T) (hB : waitsOk T.2 B = true) : ∀ {is : List (Nat × Option Tmp × Bool)} {l l' : Array Bool}, seqT T B ds is l.toList l'.toList = true → seqB md ops ds is l l' = true
  | [], l, l', h => by
    simp only [seqT, beq_iff_eq] at h
    simp only [seqB, beq_iff_eq]
    exact Array.toList_inj.1 h
  | (i, _, r) :: is, l, l', h => by
    simp only [seqT, Bool.and_eq_true] at h
    simp only [seqB, Bool.and_eq_true]
    have e : (l.setIfInBounds i true).toList = l.toList.set i true := by simp
    refine ⟨?_, seq_of hT hB (by rw [e]; exact h.2)⟩
    cases r with
    | false => exact any_of hT (by rw [e]; simpa using h.1)
    | true => exact take_ofW hT hB (by rw [e]; simpa using h.1)
end
theorem info26 : (Try.prog.info? 26).map (fun i => (i.zero, i.size, i.bytes)) = some (some (.slice none 0 0), 1, 24) := by kernel_rfl
theorem info33 : (Try.prog.info? 33).map (fun i => (i.zero, i.size, i.bytes)) = some (some (.int .u32 0), 1, 4) := by kernel_rfl
theorem info35 : (Try.prog.info? 35).map (fun i => (i.zero, i.size, i.bytes)) = some (some (.agg #[(.int .i64 0), (.int .i64 0), (.int .i64 0), (.int .i64 0), (.int .i64 0), (.string ⟨#[]⟩)]), 6, 56) := by kernel_rfl
structure S35 where
  f0 : Int
  f1 : Int
  f2 : Int
  f3 : Int
  f4 : Int
  f5 : ByteArray
def z35 : S35 := ⟨(0 : Int), (0 : Int), (0 : Int), (0 : Int), (0 : Int), (⟨#[]⟩ : ByteArray)⟩
def k35 : Kd S35 := Kd.iso (Kd.pair (Kd.int .i64) (Kd.pair (Kd.int .i64) (Kd.pair (Kd.int .i64) (Kd.pair (Kd.int .i64) (Kd.pair (Kd.int .i64) Kd.string))))) (fun x : S35 => (x.f0, x.f1, x.f2, x.f3, x.f4, x.f5))
theorem k35_open {w : World} {x : S35} {cs : List Value} (h : k35.K w x cs) : cs = [.int .i64 x.f0, .int .i64 x.f1, .int .i64 x.f2, .int .i64 x.f3, .int .i64 x.f4, .string x.f5] := by
 obtain ⟨_, _, rfl, rfl, ⟨_, _, rfl, rfl, ⟨_, _, rfl, rfl, ⟨_, _, rfl, rfl, ⟨_, _, rfl, rfl, rfl⟩⟩⟩⟩⟩ := h
 exact rfl
structure S52 where
  f0 : S35
  f1 : S35
  f2 : S35
  f3 : S35
def z52 : S52 := ⟨z35, z35, z35, z35⟩
def k52 : Kd S52 := Kd.iso (Kd.pair k35 (Kd.pair k35 (Kd.pair k35 k35))) (fun x : S52 => (x.f0, x.f1, x.f2, x.f3))
theorem k52_open {w : World} {x : S52} {cs : List Value} (h : k52.K w x cs) : cs = [.int .i64 x.f0.f0, .int .i64 x.f0.f1, .int .i64 x.f0.f2, .int .i64 x.f0.f3, .int .i64 x.f0.f4, .string x.f0.f5, .int .i64 x.f1.f0, .int .i64 x.f1.f1, .int .i64 x.f1.f2, .int .i64 x.f1.f3, .int .i64 x.f1.f4, .string x.f1.f5, .int .i64 x.f2.f0, .int .i64 x.f2.f1, .int .i64 x.f2.f2, .int .i64 x.f2.f3, .int .i64 x.f2.f4, .string x.f2.f5, .int .i64 x.f3.f0, .int .i64 x.f3.f1, .int .i64 x.f3.f2, .int .i64 x.f3.f3, .int .i64 x.f3.f4, .string x.f3.f5] := by
 obtain ⟨_, _, rfl, s0, ⟨_, _, rfl, s6, ⟨_, _, rfl, s12, s18⟩⟩⟩ := h
 obtain rfl := k35_open s0
 obtain rfl := k35_open s6
 obtain rfl := k35_open s12
 obtain rfl := k35_open s18
 exact rfl
def J52 (xs : List S52) (i : Int) : S52 := xs.getD i.toNat z52
end Go.Proofs.Ytfnchdlgkkdegaa.PAll
