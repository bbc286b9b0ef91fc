import Derived.Test.YtibfkkjkahpobaaHd1
import Derived.WalkKit
import Derived.ProofKit
import Derived.SizedLaws
import Derived.OpenShut
import Derived.Deep.Slices
import Derived.Test.YtibfkkjkahpobaaProg
import Derived.Below
import Derived.Deep.Draws
import Derived.Deep.AppendLies
import Derived.Maps.AppendAt
import Derived.OwnWalk
import Derived.Laws.BytesArg
import Derived.Laws.MakeOwn
import Derived.Laws.OwnMore
import Derived.Deep.OwnRows
import Derived.Tactics
import Derived.Lib.ConvBytes
import Derived.Laws.Slices
import Derived.KernelRfl
import Derived.RowKit3
import Derived.Deep.LoopGhost
import Derived.Deep.QuietTactic
import Derived.BigQuiet
import Derived.WideLaws
import Derived.Deep.DeepCutAuto
import Derived.Deep.CutBlock
import Derived.Deep.RegionHeld3
import Derived.Laws.Rows
import Derived.Lib.AppendStr
import Derived.ArgAppend
import Derived.Laws.IdiomCopy
import Derived.OrdersHeld
import Derived.Laws.BitsLemmas
import Derived.RowKit
import Derived.Test.YtibfkkjkahpobaaHd0
import Derived.Test.YtibfkkjkahpobaaHd14
import Derived.Test.YtibfkkjkahpobaaHd11
import Derived.Test.YtibfkkjkahpobaaHd2
import Derived.Test.YtibfkkjkahpobaaHd3
import Derived.Test.YtibfkkjkahpobaaHd8
import Derived.Test.YtibfkkjkahpobaaHd5
import Derived.Test.YtibfkkjkahpobaaHd6
import Derived.Test.YtibfkkjkahpobaaHd7
import Derived.Test.YtibfkkjkahpobaaHd9
import Derived.Test.YtibfkkjkahpobaaHd4
import Derived.Test.YtibfkkjkahpobaaHd13
import Derived.Test.YtibfkkjkahpobaaHd10
import Derived.Test.YtibfkkjkahpobaaHd12
import Derived.Test.YtibfkkjkahpobaaRows
import Derived.ShutString
import Derived.ChangeOld
import Derived.RangeFuncNested
import Derived.RangeFuncBound
import Derived.RangeFuncCalls
import Derived.RangeFuncLeaves
import Derived.Shelf.Abstract
import Derived.OwnWalkIn
import Derived.TacticsInMore
import Derived.LoopNIn
import Derived.LoopIn
set_option linter.unusedVariables false
set_option linter.unusedSimpArgs false
set_option maxHeartbeats 8000000
set_option maxRecDepth 100000
open Go.RowKit Go.Proofs.YtibfkkjkahpobaaW.PrintWords Go.Proofs.YtibfkkjkahpobaaW.PrintLast Go.Proofs.YtibfkkjkahpobaaW.PrintMore
section
namespace Go.Proofs.YtibfkkjkahpobaaW.PrintWords
open Go.RowKit Go.Deep
def Opens {α : Type} (P : Program) (t : TypeId) (d : Kd α) (Q : α → Prop) : Prop :=
  ∀ {H : Type} (enc : TypeId × Value → H) (w : World) (fuel : Nat) (cs : List Value) (y : DataW H × List MemPlace),
    DataW.trod enc P w 0 (fun _ => true) true fuel t cs = some y → (∀ n ∈ y.1.weights P t, n ≤ reachBytes) → ∃ x, d.K w x cs ∧ Q x
def IntOk (k : IntKind) (x : Int) : Prop := (Lit.int k x).wf = true
def StrOk (s : ByteArray) : Prop := s.size ≤ 140737488351232
def RowOk {α : Type} (B : Nat) (Q : α → Prop) (xs : List α) : Prop := xs.length * B ≤ 140737488351232 ∧ ∀ x ∈ xs, Q x
def And2 {α β : Type} (Q : α → Prop) (Q' : β → Prop) (x : α × β) : Prop := Q x.1 ∧ Q' x.2
theorem opens_int {P : Program} {t : TypeId} {k : IntKind} (hu : P.underlying t = some (.int k)) : Opens P t (Kd.int k) (IntOk k) := by
  intro H enc w fuel cs y h _; obtain ⟨n, rfl, rfl, hn⟩ := DataW.trod_int hu h; exact ⟨n, rfl, hn⟩
theorem opens_bool {P : Program} {t : TypeId} (hu : P.underlying t = some .bool) : Opens P t Kd.bool (fun _ => True) := by
  intro H enc w fuel cs y h _; obtain ⟨n, rfl, rfl⟩ := DataW.trod_bool hu h; exact ⟨n, rfl, trivial⟩
theorem opens_string {P : Program} {t : TypeId} (hu : P.underlying t = some .string) : Opens P t Kd.string StrOk := by
  intro H enc w fuel cs y h hw; obtain ⟨n, rfl, rfl, hn⟩ := DataW.trod_string hu h; exact ⟨n, rfl, by simpa [DataW.weights, reachBytes, StrOk] using hw⟩
theorem weightsAll_mem' {H : Type} {P : Program} {e : TypeId} : ∀ {l : List (DataW H)} {d : DataW H}, d ∈ l → ∀ n ∈ d.weights P e, n ∈ DataW.weightsAll P e l
  | d0 :: l, d, hd, n, hn => by
    simp only [DataW.weightsAll, List.mem_append]; rcases List.mem_cons.1 hd with rfl | hd
    · exact .inl hn
    · exact .inr (weightsAll_mem' hd n hn)
theorem add_add' (a : Addr) (x y : Nat) : (a.add x).add y = a.add (x + y) := by
  unfold Addr.add
  by_cases hx : x = 0
  · subst hx; simp
  · by_cases hy : y = 0
    · subst hy; simp
    · rw [if_neg hx, if_neg hy, if_neg (by omega)]; simp [Nat.add_assoc]
theorem opens_slice {α : Type} [Inhabited α] {P : Program} {t e : TypeId} {d : Kd α} {Q : α → Prop} (hu : P.underlying t = some (.slice e)) (hc : P.cellsOf e = d.sz) {B : Nat} (hB : P.bytesOf e = B) (he : Opens P e d Q) :
    Opens P t (Kd.slice e d) (RowOk B Q) := by
  subst hB; intro H enc w fuel cs y h hw; rcases open_slice hu h with ⟨rfl, rfl⟩ | ⟨a, len, cap, m, n, D, Pl, rfl, hb, hl, hm, hmm, rfl, hx⟩
  · exact ⟨[], ⟨none, 0, rfl, Nat.le_refl _, by simp [Kd.C, ReadsRow]⟩, by simp [RowOk]⟩
  · simp only [DataW.weights, hu] at hw; have hmm' : m = cap := by simpa using hmm
    obtain ⟨X, hX⟩ := choose_lt (n := len) (p := fun i x => (∃ c, c.length = d.sz ∧ d.K w x c ∧ ∀ j u, c[j]? = some u → w.cell? (a.add (i * d.sz + j)) = some u) ∧ Q x) (fun i hi => by
      obtain ⟨cs', h1, h2⟩ := hx i (by omega); obtain ⟨_, h4, h5⟩ := World.cells?_some h1
      obtain ⟨x, hk, hq⟩ := he enc w n cs' _ h2 (fun k hk => hw k (by
        refine List.mem_cons_of_mem _ (List.mem_append_left _ (weightsAll_mem' ?_ k hk))
        exact List.mem_map.2 ⟨i, List.mem_range.2 hi, rfl⟩))
      refine ⟨x, ⟨cs', by rw [h4, hc], hk, fun j u hj => ?_⟩, hq⟩; have hj' : j < P.cellsOf e := by rw [← h4]; exact (List.getElem?_eq_some_iff.1 hj).1
      rw [← hc, ← add_add', h5 j hj', hj])
    refine ⟨(List.range len).map X, ⟨some a, cap, ?_, ?_, ?_⟩, ?_, ?_⟩
    · simp
    · simpa using hl
    · refine ⟨rfl, ?_, fun _ => ⟨a, rfl, fun j p hj => ?_⟩⟩
      · simp only [List.length_map, List.length_range]; have := hm; unfold maxLen at this; omega
      · obtain ⟨hj1, rfl⟩ := List.getElem?_eq_some_iff.1 hj; have hj2 : j < len := by simpa using hj1
        obtain ⟨⟨c, h1, h2, h3⟩, _⟩ := hX j hj2; refine ⟨c, h1, ?_, h3⟩; simpa using h2
    · have h1 := hw _ List.mem_cons_self; simp only [List.length_map, List.length_range] at h1 ⊢; refine Nat.le_trans (Nat.mul_le_mul_right _ ?_) h1; omega
    · intro x hx'; obtain ⟨i, hi, rfl⟩ := List.mem_map.1 hx'; exact (hX i (List.mem_range.1 hi)).2
theorem field_trod {H : Type} {enc : TypeId × Value → H} {P : Program} {w : World} {t : TypeId} {fs : Array Field} {fuel : Nat} {cs : List Value} {y : DataW H × List MemPlace} (hu : P.underlying t = some (.struct fs))
    (h : DataW.trod enc P w 0 (fun _ => true) true fuel t cs = some y) (hw : ∀ n ∈ y.1.weights P t, n ≤ reachBytes) :
    cs.length = P.cellsOf t ∧ ∃ n, ∀ (i : Nat) (f : Field), fs[i]? = some f → ∃ z, DataW.trod enc P w 0 (fun _ => true) true n f.type ((cs.drop f.offset).take (P.cellsOf f.type)) = some z ∧ ∀ k ∈ z.1.weights P f.type, k ≤ reachBytes := by
  obtain ⟨xs, n, rfl, rfl, hl, hx, hf⟩ := DataW.trod_struct hu h; refine ⟨hl, n, fun i f hi => ?_⟩; have hlt : i < xs.length := by rw [hx]; exact (Array.getElem?_eq_some_iff.1 hi).1
  refine ⟨xs[i], by rw [hf i f hi, List.getElem?_eq_getElem hlt], fun k hk => hw k ?_⟩; simp only [DataW.weights, hu]; refine DataW.weights_mem_each (j := i) (t := f.type) (d := xs[i].1) ?_ ?_ k hk
  · simp [hi]
  · simp [List.getElem?_eq_getElem hlt]
theorem elem_trod {H : Type} {enc : TypeId × Value → H} {P : Program} {w : World} {t e : TypeId} {m : Nat} {fuel : Nat} {cs : List Value} {y : DataW H × List MemPlace} (hu : P.underlying t = some (.array m e))
    (h : DataW.trod enc P w 0 (fun _ => true) true fuel t cs = some y) (hw : ∀ n ∈ y.1.weights P t, n ≤ reachBytes) :
    cs.length = P.cellsOf t ∧ ∃ n, ∀ i, i < m → ∃ z, DataW.trod enc P w 0 (fun _ => true) true n e ((cs.drop (i * P.cellsOf e)).take (P.cellsOf e)) = some z ∧ ∀ k ∈ z.1.weights P e, k ≤ reachBytes := by
  obtain ⟨xs, n, rfl, rfl, hl, hx, hf⟩ := DataW.trod_array hu h; refine ⟨hl, n, fun i hi => ?_⟩; have hlt : i < xs.length := by omega
  refine ⟨xs[i], by rw [hf i hi, List.getElem?_eq_getElem hlt], fun k hk => hw k ?_⟩; simp only [DataW.weights, hu]; exact weightsAll_mem' (List.mem_map.2 ⟨xs[i], List.getElem_mem hlt, rfl⟩) k hk
def OpensAt {α : Type} (P : Program) (fs : List (TypeId × Nat)) (off : Nat) (d : Kd α) (Q : α → Prop) : Prop :=
  ∀ {H : Type} (enc : TypeId × Value → H) (w : World) (n : Nat) (cs : List Value),
    (∀ f ∈ fs, ∃ z, DataW.trod enc P w 0 (fun _ => true) true n f.1 ((cs.drop f.2).take (P.cellsOf f.1)) = some z ∧ ∀ k ∈ z.1.weights P f.1, k ≤ reachBytes) → cs.length = off + d.sz → ∃ x, d.K w x (cs.drop off) ∧ Q x
theorem opensAt_last {α : Type} {P : Program} {t off : Nat} {d : Kd α} {Q : α → Prop} (hc : P.cellsOf t = d.sz) (ho : Opens P t d Q) : OpensAt P [(t, off)] off d Q := by
  intro H enc w n cs h hl; obtain ⟨z, h1, h2⟩ := h _ List.mem_cons_self; obtain ⟨x, hx, hq⟩ := ho enc w n _ z h1 h2; refine ⟨x, ?_, hq⟩; simp only [hc] at hx
  rwa [List.take_of_length_le (by rw [List.length_drop]; omega)] at hx
theorem opensAt_cons {α β : Type} {P : Program} {t off : Nat} {fs : List (TypeId × Nat)} {d : Kd α} {d' : Kd β} {Q : α → Prop} {Q' : β → Prop} (hc : P.cellsOf t = d.sz) (ho : Opens P t d Q) (hr : OpensAt P fs (off + d.sz) d' Q') :
    OpensAt P ((t, off) :: fs) off (Kd.pair d d') (And2 Q Q') := by
  intro H enc w n cs h hl; obtain ⟨z, h1, h2⟩ := h _ List.mem_cons_self; obtain ⟨x, hx, hq⟩ := ho enc w n _ z h1 h2; obtain ⟨x', hx', hq'⟩ := hr enc w n cs (fun f hf => h f (List.mem_cons_of_mem _ hf)) (by simp only [Kd.pair] at hl; omega); refine ⟨(x, x'), ⟨_, _, ?_, hx, hx'⟩, hq, hq'⟩; simp only [hc]; rw [← List.drop_drop, List.take_append_drop]
theorem opens_struct {α : Type} {P : Program} {t : Nat} {fs : Array Field} {d : Kd α} {Q : α → Prop} (hu : P.underlying t = some (.struct fs)) (hc : P.cellsOf t = d.sz) (h : OpensAt P (fs.toList.map fun f => (f.type, f.offset)) 0 d Q) : Opens P t d Q := by
  intro H enc w fuel cs y hy hw; obtain ⟨hl, n, hf⟩ := field_trod hu hy hw
  have := h enc w n cs (fun f hf' => by
    obtain ⟨g, hg, rfl⟩ := List.mem_map.1 hf'; obtain ⟨i, hi⟩ := List.getElem?_of_mem hg
    exact hf i g (by simpa using hi)) (by rw [hl, hc]; omega)
  simpa using this
theorem opens_array {α : Type} {P : Program} {t m e : Nat} {d : Kd α} {Q : α → Prop} (hu : P.underlying t = some (.array m e)) (hc : P.cellsOf t = d.sz) (h : OpensAt P ((List.range m).map fun i => (e, i * P.cellsOf e)) 0 d Q) : Opens P t d Q := by
  intro H enc w fuel cs y hy hw; obtain ⟨hl, n, hf⟩ := elem_trod hu hy hw
  have := h enc w n cs (fun f hf' => by
    obtain ⟨i, hi, rfl⟩ := List.mem_map.1 hf'
    exact hf i (List.mem_range.1 hi)) (by rw [hl, hc]; omega)
  simpa using this
theorem opens_iso {α β : Type} {P : Program} {t : Nat} {d : Kd α} {Q : α → Prop} (f : β → α) (g : α → β) (hfg : ∀ x, f (g x) = x) (h : Opens P t d Q) : Opens P t (Kd.iso d f) (fun x => Q (f x)) := by
  intro H enc w fuel cs y hy hw; obtain ⟨x, hx, hq⟩ := h enc w fuel cs y hy hw; exact ⟨g x, by show d.K w (f (g x)) cs; rwa [hfg], by show Q (f (g x)); rwa [hfg]⟩
theorem opens_mono {α : Type} {P : Program} {t : Nat} {d : Kd α} {Q Q' : α → Prop} (hq : ∀ x, Q x → Q' x) (h : Opens P t d Q) : Opens P t d Q' := by
  intro H enc w fuel cs y hy hw; obtain ⟨x, hx, hx'⟩ := h enc w fuel cs y hy hw; exact ⟨x, hx, hq x hx'⟩
end Go.Proofs.YtibfkkjkahpobaaW.PrintWords
end
section
namespace Go.Proofs.Ytibfkkjkahpobaa.PDag
attribute [local go_sem] max2_int min2_int max_two min_two max_three min_three max_four min_four
def errW : Option Int → Value
  | none => .nilIface
  | some c => .iface 0 (.int .i64 c)
theorem eN_ : errW none = .nilIface := rfl
theorem eS_ (c : Int) : errW (some c) = .iface 0 (.int .i64 c) := rfl
def bm (n x : Nat) : Array Bool := ((List.range n).map x.testBit).toArray
section
variable {P : Program} {ops : Array Oper} {Q : Exit → Act → World → Prop} {md : Region.Mode} {S : World → Prop} {ds : List Nat}
def offB (md : Region.Mode) (ops : Array Oper) : List Nat → Array Bool → Array Bool → Bool
  | [], l, l' => l == l'
  | i :: is, l, l' => anyB md ops l (l.setIfInBounds i true) i && offB md ops is (l.setIfInBounds i true) l'
def offW (ops : Array Oper) : List Nat → Act → Bool
  | [], _ => true
  | i :: is, a => match ops[i]? with
    | some o => (Region.wanted o (yielded ops a.tmps) == false) && offW ops is (a.put o.dst undef)
    | none => false
def offN (ops : Array Oper) (is : List Nat) : List (Option Tmp) := is.map fun i => (ops[i]?).bind fun o => o.dst
def undefs : List (Option Tmp) → Act → Act
  | [], a => a
  | N :: Ns, a => undefs Ns (a.put N undef)
theorem offs_ {k n : Nat} {l : Array Bool} {a a' : Act} {w : World} (is : List Nat) (N : List (Option Tmp)) (l' : Array Bool) (hn : n = k + is.length) (hN : offN ops is = N) (hc : offB md ops is l l' = true)
    (hw : offW ops is a = true) (hQ0 : ∀ t v c a w, Q (.panic c) (a.put (some t) v) w → Q (.panic c) a w) (ha : undefs N a = a') (h : wpAnyLast P md ops Q S ds k l' a' w) : wpAnyLast P md ops Q S ds n l a w := by
 have hQ : ∀ d v c a w, Q (.panic c) (a.put d v) w → Q (.panic c) a w := fun d v => by
  cases d with
  | none => exact fun _ _ _ h => h
  | some t => exact hQ0 t v
 subst ha; subst hN; subst hn
 induction is generalizing l a with
 | nil =>
  obtain rfl : l = l' := by simpa [offB] using hc
  exact h
 | cons i is ih =>
  simp only [offB, Bool.and_eq_true] at hc; simp only [offW] at hw
  cases ho : ops[i]? with
  | none => rw [ho] at hw; cases hw
  | some o =>
   rw [ho] at hw; simp only [Bool.and_eq_true, beq_iff_eq] at hw; refine pure_ (fuel := k + is.length) (v := undef) (a' := a.put o.dst undef) (l.setIfInBounds i true) ho rfl hc.1 (fun c a w => hQ _ _ c a w) (Or.inr ⟨hw.1, rfl⟩) rfl ?_; refine ih hc.2 hw.2 ?_; have e : offN ops (i :: is) = o.dst :: offN ops is := by simp [offN, ho]
   rw [e] at h; exact h
def offT (T : Bool × List (List Nat × List Nat)) : List Nat → List Bool → List Bool → Bool
  | [], l, l' => l == l'
  | i :: is, l, l' => anyT T l (l.set i true) i && offT T is (l.set i true) l'
theorem off_of {T : Bool × List (List Nat × List Nat)} (hT : rtab md ops = T) : ∀ {is : List Nat} {l l' : Array Bool}, offT T is l.toList l'.toList = true → offB md ops is l l' = true
  | [], l, l', h => by
    simp only [offT, beq_iff_eq] at h; simp only [offB, beq_iff_eq]
    exact Array.toList_inj.1 h
  | i :: is, l, l', h => by
    simp only [offT, Bool.and_eq_true] at h; simp only [offB, Bool.and_eq_true]; have e : (l.setIfInBounds i true).toList = l.toList.set i true := by simp
    exact ⟨any_of hT (by rw [e]; exact h.1), off_of hT (by rw [e]; exact h.2)⟩
end
section
variable {P : Program} {ops : Array Oper} {Q : Exit → Act → World → Prop} {md : Region.Mode} {S : World → Prop} {ds : List Nat}
def SeqOn (P : Program) (ops : Array Oper) (S : World → Prop) (K : Act → Prop) : List (Nat × Option Tmp × Bool) → Act → Prop
  | [], a => K a
  | (i, N, r) :: is, a => ∃ oi v, ops[i]? = some oi ∧ oi.dst = N ∧ (if r = true then YieldsIf P ops S oi v a else Yields P ops oi v a) ∧ SeqOn P ops S K is (a.put N v)
theorem SeqOn.nil {K : Act → Prop} {a : Act} (h : K a) : SeqOn P ops S K [] a := h
theorem SeqOn.pure {K : Act → Prop} {i : Nat} {N : Option Tmp} {is : List (Nat × Option Tmp × Bool)} {a a' : Act} {oi : Oper} {v : Value} (hi : ops[i]? = some oi) (hN : oi.dst = N) (hy : Yields P ops oi v a) (ha : a.put N v = a') (h : SeqOn P ops S K is a') : SeqOn P ops S K ((i, N, false) :: is) a := by
 subst ha; exact ⟨oi, v, hi, hN, hy, h⟩
theorem SeqOn.take {K : Act → Prop} {i : Nat} {N : Option Tmp} {is : List (Nat × Option Tmp × Bool)} {a a' : Act} {oi : Oper} {v : Value} (hi : ops[i]? = some oi) (hN : oi.dst = N) (hy : YieldsIf P ops S oi v a) (ha : a.put N v = a') (h : SeqOn P ops S K is a') : SeqOn P ops S K ((i, N, true) :: is) a := by
 subst ha; exact ⟨oi, v, hi, hN, hy, h⟩
def seqB (md : Region.Mode) (ops : Array Oper) (ds : List Nat) : List (Nat × Option Tmp × Bool) → Array Bool → Array Bool → Bool
  | [], l, l' => l == l'
  | (i, _, r) :: is, l, l' => (if r = true then takeB md ops ds l (l.setIfInBounds i true) i else anyB md ops l (l.setIfInBounds i true) i) && seqB md ops ds is (l.setIfInBounds i true) l'
theorem seq_ {k n : Nat} {l : Array Bool} {a : Act} {w : World} (is : List (Nat × Option Tmp × Bool)) (l' : Array Bool) (hn : n = k + is.length) (hc : seqB md ops ds is l l' = true)
    (hQ0 : ∀ t v c a w, Q (.panic c) (a.put (some t) v) w → Q (.panic c) a w) (hS : S w) (h : SeqOn P ops S (fun a => wpAnyLast P md ops Q S ds k l' a w) is a) : wpAnyLast P md ops Q S ds n l a w := by
 have hQ : ∀ d v c a w, Q (.panic c) (a.put d v) w → Q (.panic c) a w := fun d v => by
  cases d with
  | none => exact fun _ _ _ h => h
  | some t => exact hQ0 t v
 subst hn
 induction is generalizing l a with
 | nil =>
  obtain rfl : l = l' := by simpa [seqB] using hc
  exact h
 | cons i is ih =>
  obtain ⟨i, N, r⟩ := i; obtain ⟨oi, v, ho, hN, hy, h⟩ := h; subst hN; simp only [seqB, Bool.and_eq_true] at hc
  cases r with
  | false =>
   rw [if_neg (by decide)] at hy; refine pure_ (fuel := k + is.length) (v := v) (a' := a.put oi.dst v) (l.setIfInBounds i true) ho rfl (by simpa using hc.1) (fun c a w => hQ _ _ c a w) hy rfl ?_
   exact ih hc.2 h
  | true =>
   rw [if_pos rfl] at hy; refine take_ (fuel := k + is.length) (v := v) (a' := a.put oi.dst v) (l.setIfInBounds i true) ho rfl (by simpa using hc.1) (fun c a w => hQ _ _ c a w) hy hS rfl ?_; exact ih hc.2 h
def seqT (T : Bool × List (List Nat × List Nat)) (B ds : List Nat) : List (Nat × Option Tmp × Bool) → List Bool → List Bool → Bool
  | [], l, l' => l == l'
  | (i, _, r) :: is, l, l' => (if r = true then takeW T B ds l (l.set i true) i else anyT T l (l.set i true) i) && seqT T B ds is (l.set i true) l'
theorem seq_of {T : Bool × List (List Nat × List Nat)} {B : List Nat} (hT : rtab md ops = T) (hB : waitsOk T.2 B = true) : ∀ {is : List (Nat × Option Tmp × Bool)} {l l' : Array Bool}, seqT T B ds is l.toList l'.toList = true → seqB md ops ds is l l' = true
  | [], l, l', h => by
    simp only [seqT, beq_iff_eq] at h; simp only [seqB, beq_iff_eq]
    exact Array.toList_inj.1 h
  | (i, _, r) :: is, l, l', h => by
    simp only [seqT, Bool.and_eq_true] at h; simp only [seqB, Bool.and_eq_true]; have e : (l.setIfInBounds i true).toList = l.toList.set i true := by simp
    refine ⟨?_, seq_of hT hB (by rw [e]; exact h.2)⟩
    cases r with
    | false => exact any_of hT (by rw [e]; simpa using h.1)
    | true => exact take_ofW hT hB (by rw [e]; simpa using h.1)
end
theorem info3 : (Try.prog.info? 3).map (fun i => (i.zero, i.size, i.bytes)) = some (some (.int .i64 0), 1, 8) := by kernel_rfl
theorem info24 : (Try.prog.info? 24).map (fun i => (i.zero, i.size, i.bytes)) = some (some (.agg #[(.int .i64 0), (.int .i64 0), (.int .i64 0), (.int .i64 0), (.int .i64 0), (.string ⟨#[]⟩)]), 6, 56) := by kernel_rfl
theorem info51 : (Try.prog.info? 51).map (fun i => (i.zero, i.size, i.bytes)) = some (some (.agg #[(.int .i64 0), (.int .i64 0), (.int .i64 0)]), 3, 24) := by kernel_rfl
theorem info81 : (Try.prog.info? 81).map (fun i => (i.zero, i.size, i.bytes)) = some (some (.agg #[(.int .i64 0), (.int .i64 0), (.int .i64 0), (.int .i64 0), (.int .i64 0), (.string ⟨#[]⟩), (.int .i64 0), (.int .i64 0), (.int .i64 0), (.int .i64 0), (.int .i64 0), (.string ⟨#[]⟩), (.int .i64 0), (.int .i64 0), (.int .i64 0), (.int .i64 0), (.int .i64 0), (.string ⟨#[]⟩), (.int .i64 0), (.int .i64 0), (.int .i64 0), (.int .i64 0), (.int .i64 0), (.string ⟨#[]⟩)]), 24, 224) := by kernel_rfl
structure S24 where
  f0 : Int
  f1 : Int
  f2 : Int
  f3 : Int
  f4 : Int
  f5 : ByteArray
def z24 : S24 := ⟨(0 : Int), (0 : Int), (0 : Int), (0 : Int), (0 : Int), (⟨#[]⟩ : ByteArray)⟩
def k24 : Kd S24 := Kd.iso (Kd.pair (Kd.int .i64) (Kd.pair (Kd.int .i64) (Kd.pair (Kd.int .i64) (Kd.pair (Kd.int .i64) (Kd.pair (Kd.int .i64) Kd.string))))) (fun x : S24 => (x.f0, x.f1, x.f2, x.f3, x.f4, x.f5))
theorem k24_heap : Kd.Heap k24 := Kd.heap_iso _ (Kd.heap_pair (Kd.heap_int .i64) (Kd.heap_pair (Kd.heap_int .i64) (Kd.heap_pair (Kd.heap_int .i64) (Kd.heap_pair (Kd.heap_int .i64) (Kd.heap_pair (Kd.heap_int .i64) Kd.heap_string)))))
theorem k24_open {w : World} {x : S24} {cs : List Value} (h : k24.K w x cs) : cs = [.int .i64 x.f0, .int .i64 x.f1, .int .i64 x.f2, .int .i64 x.f3, .int .i64 x.f4, .string x.f5] := by
 obtain ⟨_, _, rfl, rfl, ⟨_, _, rfl, rfl, ⟨_, _, rfl, rfl, ⟨_, _, rfl, rfl, ⟨_, _, rfl, rfl, rfl⟩⟩⟩⟩⟩ := h; exact rfl
theorem k24_openM {w : World} {base : Nat} {ok : Nat → Prop} {x : S24} {cs : List Value} (h : k24.M w base ok x cs) : cs = [.int .i64 x.f0, .int .i64 x.f1, .int .i64 x.f2, .int .i64 x.f3, .int .i64 x.f4, .string x.f5] := by
 obtain ⟨_, _, rfl, rfl, ⟨_, _, rfl, rfl, ⟨_, _, rfl, rfl, ⟨_, _, rfl, rfl, ⟨_, _, rfl, rfl, rfl⟩⟩⟩⟩⟩ := h; exact rfl
theorem k24_mkM (w : World) (base : Nat) (ok : Nat → Prop) (x : S24)  : k24.M w base ok x [.int .i64 x.f0, .int .i64 x.f1, .int .i64 x.f2, .int .i64 x.f3, .int .i64 x.f4, .string x.f5] := ⟨[.int .i64 x.f0], [.int .i64 x.f1, .int .i64 x.f2, .int .i64 x.f3, .int .i64 x.f4, .string x.f5], rfl, rfl, ⟨[.int .i64 x.f1], [.int .i64 x.f2, .int .i64 x.f3, .int .i64 x.f4, .string x.f5], rfl, rfl, ⟨[.int .i64 x.f2], [.int .i64 x.f3, .int .i64 x.f4, .string x.f5], rfl, rfl, ⟨[.int .i64 x.f3], [.int .i64 x.f4, .string x.f5], rfl, rfl, ⟨[.int .i64 x.f4], [.string x.f5], rfl, rfl, rfl⟩⟩⟩⟩⟩
def J24 (xs : List S24) (i : Int) : S24 := xs.getD i.toNat z24
theorem at_T24 {w : World} {A : Option Addr} {n : Nat} {xs : List S24} (h : Kd.C k24 w A n xs) (i : Int) (h0 : 0 ≤ i) (h1 : i < n) : ∃ ad , A = some ad ∧ w.cell? (ad.add (i.toNat * 6)) = some (.int .i64 (J24 xs i).f0) ∧ w.cell? ⟨(ad.add (i.toNat * 6)).block, (ad.add (i.toNat * 6)).off + 1, none⟩ = some (.int .i64 (J24 xs i).f1) ∧ w.cell? ⟨(ad.add (i.toNat * 6)).block, (ad.add (i.toNat * 6)).off + 2, none⟩ = some (.int .i64 (J24 xs i).f2) ∧ w.cell? ⟨(ad.add (i.toNat * 6)).block, (ad.add (i.toNat * 6)).off + 3, none⟩ = some (.int .i64 (J24 xs i).f3) ∧ w.cell? ⟨(ad.add (i.toNat * 6)).block, (ad.add (i.toNat * 6)).off + 4, none⟩ = some (.int .i64 (J24 xs i).f4) ∧ w.cell? ⟨(ad.add (i.toNat * 6)).block, (ad.add (i.toNat * 6)).off + 5, none⟩ = some (.string (J24 xs i).f5) := by
 obtain ⟨ad, c, e, _, hK, hc0⟩ := Kd.C_get h z24 i h0 h1; have hc : ∀ j u, c[j]? = some u → w.cell? (ad.add (i.toNat * 6 + j)) = some u := hc0; obtain rfl := k24_open hK; exact ⟨ad, e, hc 0 _ rfl, by rw [← add_field _ _ 1 (by omega)]; exact hc 1 _ rfl, by rw [← add_field _ _ 2 (by omega)]; exact hc 2 _ rfl, by rw [← add_field _ _ 3 (by omega)]; exact hc 3 _ rfl, by rw [← add_field _ _ 4 (by omega)]; exact hc 4 _ rfl, by rw [← add_field _ _ 5 (by omega)]; exact hc 5 _ rfl⟩
structure S51 where
  f0 : Int
  f1 : Int
  f2 : Int
def z51 : S51 := ⟨(0 : Int), (0 : Int), (0 : Int)⟩
def k51 : Kd S51 := Kd.iso (Kd.pair (Kd.int .i64) (Kd.pair (Kd.int .i64) (Kd.int .i64))) (fun x : S51 => (x.f0, x.f1, x.f2))
theorem k51_open {w : World} {x : S51} {cs : List Value} (h : k51.K w x cs) : cs = [.int .i64 x.f0, .int .i64 x.f1, .int .i64 x.f2] := by
 obtain ⟨_, _, rfl, rfl, ⟨_, _, rfl, rfl, rfl⟩⟩ := h; exact rfl
theorem k51_mkM (w : World) (base : Nat) (ok : Nat → Prop) (x : S51)  : k51.M w base ok x [.int .i64 x.f0, .int .i64 x.f1, .int .i64 x.f2] := ⟨[.int .i64 x.f0], [.int .i64 x.f1, .int .i64 x.f2], rfl, rfl, ⟨[.int .i64 x.f1], [.int .i64 x.f2], rfl, rfl, rfl⟩⟩
def J51 (xs : List S51) (i : Int) : S51 := xs.getD i.toNat z51
theorem at_T51 {w : World} {A : Option Addr} {n : Nat} {xs : List S51} (h : Kd.C k51 w A n xs) (i : Int) (h0 : 0 ≤ i) (h1 : i < n) : ∃ ad , A = some ad ∧ w.cell? (ad.add (i.toNat * 3)) = some (.int .i64 (J51 xs i).f0) ∧ w.cell? ⟨(ad.add (i.toNat * 3)).block, (ad.add (i.toNat * 3)).off + 1, none⟩ = some (.int .i64 (J51 xs i).f1) ∧ w.cell? ⟨(ad.add (i.toNat * 3)).block, (ad.add (i.toNat * 3)).off + 2, none⟩ = some (.int .i64 (J51 xs i).f2) := by
 obtain ⟨ad, c, e, _, hK, hc0⟩ := Kd.C_get h z51 i h0 h1; have hc : ∀ j u, c[j]? = some u → w.cell? (ad.add (i.toNat * 3 + j)) = some u := hc0; obtain rfl := k51_open hK; exact ⟨ad, e, hc 0 _ rfl, by rw [← add_field _ _ 1 (by omega)]; exact hc 1 _ rfl, by rw [← add_field _ _ 2 (by omega)]; exact hc 2 _ rfl⟩
structure S81 where
  f0 : S24
  f1 : S24
  f2 : S24
  f3 : S24
def z81 : S81 := ⟨z24, z24, z24, z24⟩
def k81 : Kd S81 := Kd.iso (Kd.pair k24 (Kd.pair k24 (Kd.pair k24 k24))) (fun x : S81 => (x.f0, x.f1, x.f2, x.f3))
theorem k81_openM {w : World} {base : Nat} {ok : Nat → Prop} {x : S81} {cs : List Value} (h : k81.M w base ok x cs) : cs = [.int .i64 x.f0.f0, .int .i64 x.f0.f1, .int .i64 x.f0.f2, .int .i64 x.f0.f3, .int .i64 x.f0.f4, .string x.f0.f5, .int .i64 x.f1.f0, .int .i64 x.f1.f1, .int .i64 x.f1.f2, .int .i64 x.f1.f3, .int .i64 x.f1.f4, .string x.f1.f5, .int .i64 x.f2.f0, .int .i64 x.f2.f1, .int .i64 x.f2.f2, .int .i64 x.f2.f3, .int .i64 x.f2.f4, .string x.f2.f5, .int .i64 x.f3.f0, .int .i64 x.f3.f1, .int .i64 x.f3.f2, .int .i64 x.f3.f3, .int .i64 x.f3.f4, .string x.f3.f5] := by
 obtain ⟨_, _, rfl, s0, ⟨_, _, rfl, s6, ⟨_, _, rfl, s12, s18⟩⟩⟩ := h; obtain rfl := k24_openM s0; obtain rfl := k24_openM s6; obtain rfl := k24_openM s12; obtain rfl := k24_openM s18; exact rfl
theorem k81_mkM (w : World) (base : Nat) (ok : Nat → Prop) (x : S81)  : k81.M w base ok x [.int .i64 x.f0.f0, .int .i64 x.f0.f1, .int .i64 x.f0.f2, .int .i64 x.f0.f3, .int .i64 x.f0.f4, .string x.f0.f5, .int .i64 x.f1.f0, .int .i64 x.f1.f1, .int .i64 x.f1.f2, .int .i64 x.f1.f3, .int .i64 x.f1.f4, .string x.f1.f5, .int .i64 x.f2.f0, .int .i64 x.f2.f1, .int .i64 x.f2.f2, .int .i64 x.f2.f3, .int .i64 x.f2.f4, .string x.f2.f5, .int .i64 x.f3.f0, .int .i64 x.f3.f1, .int .i64 x.f3.f2, .int .i64 x.f3.f3, .int .i64 x.f3.f4, .string x.f3.f5] := ⟨[.int .i64 x.f0.f0, .int .i64 x.f0.f1, .int .i64 x.f0.f2, .int .i64 x.f0.f3, .int .i64 x.f0.f4, .string x.f0.f5], [.int .i64 x.f1.f0, .int .i64 x.f1.f1, .int .i64 x.f1.f2, .int .i64 x.f1.f3, .int .i64 x.f1.f4, .string x.f1.f5, .int .i64 x.f2.f0, .int .i64 x.f2.f1, .int .i64 x.f2.f2, .int .i64 x.f2.f3, .int .i64 x.f2.f4, .string x.f2.f5, .int .i64 x.f3.f0, .int .i64 x.f3.f1, .int .i64 x.f3.f2, .int .i64 x.f3.f3, .int .i64 x.f3.f4, .string x.f3.f5], rfl, (k24_mkM w base ok x.f0 ), ⟨[.int .i64 x.f1.f0, .int .i64 x.f1.f1, .int .i64 x.f1.f2, .int .i64 x.f1.f3, .int .i64 x.f1.f4, .string x.f1.f5], [.int .i64 x.f2.f0, .int .i64 x.f2.f1, .int .i64 x.f2.f2, .int .i64 x.f2.f3, .int .i64 x.f2.f4, .string x.f2.f5, .int .i64 x.f3.f0, .int .i64 x.f3.f1, .int .i64 x.f3.f2, .int .i64 x.f3.f3, .int .i64 x.f3.f4, .string x.f3.f5], rfl, (k24_mkM w base ok x.f1 ), ⟨[.int .i64 x.f2.f0, .int .i64 x.f2.f1, .int .i64 x.f2.f2, .int .i64 x.f2.f3, .int .i64 x.f2.f4, .string x.f2.f5], [.int .i64 x.f3.f0, .int .i64 x.f3.f1, .int .i64 x.f3.f2, .int .i64 x.f3.f3, .int .i64 x.f3.f4, .string x.f3.f5], rfl, (k24_mkM w base ok x.f2 ), (k24_mkM w base ok x.f3 )⟩⟩⟩
def J81 (xs : List S81) (i : Int) : S81 := xs.getD i.toNat z81
structure S145 where
  f0 : ByteArray
  f1 : S24
def k145 : Kd S145 := Kd.iso (Kd.pair Kd.string k24) (fun x : S145 => (x.f0, x.f1))
structure S147 where
  f0 : ByteArray
  f1 : Int
def k147 : Kd S147 := Kd.iso (Kd.pair Kd.string (Kd.int .i64)) (fun x : S147 => (x.f0, x.f1))
structure S149 where
  f0 : ByteArray
  f1 : Bool
  f2 : Int
  f3 : Bool
def k149 : Kd S149 := Kd.iso (Kd.pair Kd.string (Kd.pair Kd.bool (Kd.pair (Kd.int .i64) Kd.bool))) (fun x : S149 => (x.f0, x.f1, x.f2, x.f3))
structure S140 where
  f0 : (List S145)
  f1 : (List S147)
  f2 : (List S149)
  f3 : (List ByteArray)
def k140 : Kd S140 := Kd.iso (Kd.pair (Kd.slice 145 k145) (Kd.pair (Kd.slice 147 k147) (Kd.pair (Kd.slice 149 k149) (Kd.slice 9 Kd.string)))) (fun x : S140 => (x.f0, x.f1, x.f2, x.f3))
structure S73 where
  f0 : (List ByteArray)
  f1 : (List S24)
  f2 : S24
def k73 : Kd S73 := Kd.iso (Kd.pair (Kd.slice 9 Kd.string) (Kd.pair (Kd.slice 24 k24) k24)) (fun x : S73 => (x.f0, x.f1, x.f2))
end Go.Proofs.Ytibfkkjkahpobaa.PDag
namespace Go.Proofs.Ytibfkkjkahpobaa.PDag
theorem eR_ {α : Sort _} {a b : α} (h : a = b := by first | rfl | (simp [eN_, eS_] <;> rfl) | (simp [*, eN_, eS_] <;> rfl)) : a = b := h
end Go.Proofs.Ytibfkkjkahpobaa.PDag
end
section
namespace Go.Proofs.Ytibfkkjkahpobaa.PDag
open Go.ChangeShapes Go.WideShapes Go.ChangeAt Go.RowKit Go.Proofs.YtibfkkjkahpobaaW.PrintWords
theorem own : ownKnob Try.prog.godebug = none := by kernel_rfl
theorem laidOut : laidOutB Try.prog = true := by kernel_rfl
instance : Inhabited S24 := ⟨z24⟩
def Q24 (x : S24) : Prop := IntOk .i64 x.f0 ∧ IntOk .i64 x.f1 ∧ IntOk .i64 x.f2 ∧ IntOk .i64 x.f3 ∧ IntOk .i64 x.f4 ∧ StrOk x.f5
theorem opens3 : Opens Try.prog 3 (Kd.int .i64) (IntOk .i64) := opens_int Try.underlying3
theorem opens9 : Opens Try.prog 9 Kd.string StrOk := opens_string Try.underlying9
theorem opens24 : Opens Try.prog 24 k24 Q24 :=
  opens_iso (fun x : S24 => (x.f0, x.f1, x.f2, x.f3, x.f4, x.f5)) (fun x => ⟨x.1, x.2.1, x.2.2.1, x.2.2.2.1, x.2.2.2.2.1, x.2.2.2.2.2⟩) (fun _ => rfl)
    (opens_struct Try.underlying24 (by kernel_rfl)
      (opensAt_cons (by kernel_rfl) opens3 (opensAt_cons (by kernel_rfl) opens3 (opensAt_cons (by kernel_rfl) opens3 (opensAt_cons (by kernel_rfl) opens3 (opensAt_cons (by kernel_rfl) opens3 (opensAt_last (by kernel_rfl) opens9)))))))
theorem opens22 : Opens Try.prog 22 (Kd.slice 24 k24) (RowOk 56 Q24) := opens_slice Try.underlying22 (by kernel_rfl) (by kernel_rfl) opens24
theorem opens25 : Opens Try.prog 25 (Kd.slice 3 (Kd.int .i64)) (RowOk 8 (IntOk .i64)) := opens_slice Try.underlying25 (by kernel_rfl) (by kernel_rfl) opens3
theorem opens27 : Opens Try.prog 27 (Kd.pair (Kd.slice 24 k24) (Kd.pair k24 (Kd.slice 3 (Kd.int .i64)))) (And2 (RowOk 56 Q24) (And2 Q24 (RowOk 8 (IntOk .i64)))) :=
  opens_struct Try.underlying27 (by kernel_rfl) (opensAt_cons (by kernel_rfl) opens22 (opensAt_cons (by kernel_rfl) opens24 (opensAt_last (by kernel_rfl) opens25)))
def InAsk (lI : List S24) (x : S24) (lN : List Int) : Prop := RowOk 56 Q24 lI ∧ Q24 x ∧ RowOk 8 (IntOk .i64) lN
def LawWalk (n : Nat) : Prop :=
  ∀ (A0 : Option Addr) (c0 : Nat) (lI : List S24) (x : S24) (A1 : Option Addr) (c1 : Nat) (lN : List Int) (w : World),
    Kd.C k24 w A0 lI.length lI → lI.length ≤ c0 → Kd.C (Kd.int .i64) w A1 lN.length lN → lN.length ≤ c1 → InAsk lI x lN →
    Calls Try.prog n #[.agg #[.slice A0 lI.length c0, .int .i64 x.f0, .int .i64 x.f1, .int .i64 x.f2, .int .i64 x.f3, .int .i64 x.f4, .string x.f5, .slice A1 lN.length c1]] w fun e w' => e = .returned (.bool true) ∧ Below w.heap.size w w'
theorem ask_open {H : Type} {enc : TypeId × Value → H} {W : World} {base : Nat} {v : Value} {d : DataW H} {p : List MemPlace} (hv : ∃ cs, v = .agg cs ∧ cs.size = Try.prog.cellsOf 27 ∧ Row.okWide Try.prog W .any base 27 cs)
    (h : DataW.Trod enc Try.prog W 0 (fun _ => true) true 27 v d p) (hw : ∀ n ∈ d.weights Try.prog 27, n ≤ reachBytes) :
    ∃ (A0 : Option Addr) (c0 : Nat) (lI : List S24) (x : S24) (A1 : Option Addr) (c1 : Nat) (lN : List Int),
      v = .agg #[.slice A0 lI.length c0, .int .i64 x.f0, .int .i64 x.f1, .int .i64 x.f2, .int .i64 x.f3, .int .i64 x.f4, .string x.f5, .slice A1 lN.length c1] ∧
      Kd.C k24 W A0 lI.length lI ∧ lI.length ≤ c0 ∧ Kd.C (Kd.int .i64) W A1 lN.length lN ∧ lN.length ≤ c1 ∧ InAsk lI x lN := by
  obtain ⟨cs, rfl, _, _⟩ := hv; obtain ⟨fuel, hf⟩ := h; obtain ⟨x, hx, hq⟩ := opens27 enc W fuel _ (d, p) hf hw; obtain ⟨lI, x, lN⟩ := x; obtain ⟨_, _, he, ⟨A0, c0, rfl, h0, g0⟩, ⟨_, _, rfl, hk, ⟨A1, c1, rfl, h1, g1⟩⟩⟩ := hx; have hk' := k24_open hk; subst hk'; refine ⟨A0, c0, lI, x, A1, c1, lN, ?_, g0, h0, g1, h1, hq.1, hq.2.1, hq.2.2⟩; rw [show cs = #[.slice A0 lI.length c0, .int .i64 x.f0, .int .i64 x.f1, .int .i64 x.f2, .int .i64 x.f3, .int .i64 x.f4, .string x.f5, .slice A1 lN.length c1] from ?_]; apply Array.toList_inj.1; simpa [Value.cells] using he
end Go.Proofs.Ytibfkkjkahpobaa.PDag
end
section
namespace Go.Proofs.Ytibfkkjkahpobaa.PDag.S15
open Go.ChangeShapes Go.WideShapes Go.ChangeAt Go.RowKit Go.Proofs.Ytibfkkjkahpobaa.PDag Go.Proofs.YtibfkkjkahpobaaW.PrintWords
instance : Inhabited S145 := ⟨⟨⟨#[]⟩, z24⟩⟩
instance : Inhabited S147 := ⟨⟨⟨#[]⟩, 0⟩⟩
instance : Inhabited S149 := ⟨⟨⟨#[]⟩, false, 0, false⟩⟩
instance : Inhabited S140 := ⟨⟨[], [], [], []⟩⟩
instance : Inhabited S73 := ⟨⟨[], [], z24⟩⟩
instance : Inhabited S81 := ⟨⟨z24, z24, z24, z24⟩⟩
theorem opens4 : Opens Try.prog 4 Kd.bool (fun _ => True) := opens_bool Try.underlying4
theorem opens145 : Opens Try.prog 145 k145 (fun _ => True) :=
  opens_mono (fun _ _ => trivial) (opens_iso (fun x : S145 => (x.f0, x.f1)) (fun x => ⟨x.1, x.2⟩) (fun _ => rfl) (opens_struct Try.underlying145 (by kernel_rfl) (opensAt_cons (by kernel_rfl) opens9 (opensAt_last (by kernel_rfl) opens24))))
theorem opens147 : Opens Try.prog 147 k147 (fun _ => True) :=
  opens_mono (fun _ _ => trivial) (opens_iso (fun x : S147 => (x.f0, x.f1)) (fun x => ⟨x.1, x.2⟩) (fun _ => rfl) (opens_struct Try.underlying147 (by kernel_rfl) (opensAt_cons (by kernel_rfl) opens9 (opensAt_last (by kernel_rfl) opens3))))
theorem opens149 : Opens Try.prog 149 k149 (fun _ => True) :=
  opens_mono (fun _ _ => trivial) (opens_iso (fun x : S149 => (x.f0, x.f1, x.f2, x.f3)) (fun x => ⟨x.1, x.2.1, x.2.2.1, x.2.2.2⟩) (fun _ => rfl) (opens_struct Try.underlying149 (by kernel_rfl) (opensAt_cons (by kernel_rfl) opens9 (opensAt_cons (by kernel_rfl) opens4 (opensAt_cons (by kernel_rfl) opens3 (opensAt_last (by kernel_rfl) opens4))))))
theorem opens58 : Opens Try.prog 58 (Kd.slice 9 Kd.string) (RowOk 16 StrOk) := opens_slice Try.underlying58 (by kernel_rfl) (by kernel_rfl) opens9
theorem opens136 : Opens Try.prog 136 (Kd.slice 145 k145) (RowOk 72 (fun _ => True)) := opens_slice Try.underlying136 (by kernel_rfl) (by kernel_rfl) opens145
theorem opens137 : Opens Try.prog 137 (Kd.slice 147 k147) (RowOk 24 (fun _ => True)) := opens_slice Try.underlying137 (by kernel_rfl) (by kernel_rfl) opens147
theorem opens138 : Opens Try.prog 138 (Kd.slice 149 k149) (RowOk 40 (fun _ => True)) := opens_slice Try.underlying138 (by kernel_rfl) (by kernel_rfl) opens149
def Q140 (x : S140) : Prop := RowOk 72 (fun _ => True) x.f0 ∧ RowOk 24 (fun _ => True) x.f1 ∧ RowOk 40 (fun _ => True) x.f2 ∧ RowOk 16 StrOk x.f3
theorem opens140 : Opens Try.prog 140 k140 Q140 :=
  opens_iso (fun x : S140 => (x.f0, x.f1, x.f2, x.f3)) (fun x => ⟨x.1, x.2.1, x.2.2.1, x.2.2.2⟩) (fun _ => rfl) (opens_struct Try.underlying140 (by kernel_rfl) (opensAt_cons (by kernel_rfl) opens136 (opensAt_cons (by kernel_rfl) opens137 (opensAt_cons (by kernel_rfl) opens138 (opensAt_last (by kernel_rfl) opens58)))))
def Q73 (x : S73) : Prop := RowOk 16 StrOk x.f0 ∧ RowOk 56 Q24 x.f1 ∧ Q24 x.f2
theorem opens73 : Opens Try.prog 73 k73 Q73 :=
  opens_iso (fun x : S73 => (x.f0, x.f1, x.f2)) (fun x => ⟨x.1, x.2.1, x.2.2⟩) (fun _ => rfl) (opens_struct Try.underlying73 (by kernel_rfl) (opensAt_cons (by kernel_rfl) opens58 (opensAt_cons (by kernel_rfl) opens22 (opensAt_last (by kernel_rfl) opens24))))
theorem opens81 : Opens Try.prog 81 k81 (fun _ => True) :=
  opens_mono (fun _ _ => trivial) (opens_iso (fun x : S81 => (x.f0, x.f1, x.f2, x.f3)) (fun x => ⟨x.1, x.2.1, x.2.2.1, x.2.2.2⟩) (fun _ => rfl) (opens_array Try.underlying81 (by kernel_rfl) (by
    rw [show (List.range 4).map (fun i => (24, i * Try.prog.cellsOf 24)) = [(24, 0), (24, 0 + k24.sz), (24, 0 + k24.sz + k24.sz), (24, 0 + k24.sz + k24.sz + k24.sz)] by kernel_rfl]
    exact opensAt_cons (by kernel_rfl) opens24 (opensAt_cons (by kernel_rfl) opens24 (opensAt_cons (by kernel_rfl) opens24 (opensAt_last (by kernel_rfl) opens24))))))
theorem opens59 : Opens Try.prog 59 (Kd.slice 140 k140) (RowOk 96 Q140) := opens_slice Try.underlying59 (by kernel_rfl) (by kernel_rfl) opens140
theorem opens62 : Opens Try.prog 62 (Kd.slice 73 k73) (RowOk 104 Q73) := opens_slice Try.underlying62 (by kernel_rfl) (by kernel_rfl) opens73
theorem opens65 : Opens Try.prog 65 (Kd.slice 81 k81) (RowOk 224 (fun _ => True)) := opens_slice Try.underlying65 (by kernel_rfl) (by kernel_rfl) opens81
theorem opens61 : Opens Try.prog 61 (Kd.pair (Kd.slice 9 Kd.string) (Kd.slice 140 k140)) (And2 (RowOk 16 StrOk) (RowOk 96 Q140)) :=
  opens_struct Try.underlying61 (by kernel_rfl) (opensAt_cons (by kernel_rfl) opens58 (opensAt_last (by kernel_rfl) opens59))
theorem opens64 : Opens Try.prog 64 (Kd.pair (Kd.pair (Kd.slice 9 Kd.string) (Kd.slice 140 k140)) (Kd.slice 73 k73)) (And2 (And2 (RowOk 16 StrOk) (RowOk 96 Q140)) (RowOk 104 Q73)) :=
  opens_struct Try.underlying64 (by kernel_rfl) (opensAt_cons (by kernel_rfl) opens61 (opensAt_last (by kernel_rfl) opens62))
theorem opens67 : Opens Try.prog 67 (Kd.pair (Kd.pair (Kd.slice 24 k24) (Kd.pair k24 (Kd.slice 3 (Kd.int .i64)))) (Kd.pair (Kd.pair (Kd.pair (Kd.slice 9 Kd.string) (Kd.slice 140 k140)) (Kd.slice 73 k73)) (Kd.slice 81 k81)))
    (And2 (And2 (RowOk 56 Q24) (And2 Q24 (RowOk 8 (IntOk .i64)))) (And2 (And2 (And2 (RowOk 16 StrOk) (RowOk 96 Q140)) (RowOk 104 Q73)) (RowOk 224 (fun _ => True)))) :=
  opens_struct Try.underlying67 (by kernel_rfl) (opensAt_cons (by kernel_rfl) opens27 (opensAt_cons (by kernel_rfl) opens64 (opensAt_last (by kernel_rfl) opens65)))
structure In15 (lI : List S24) (x : S24) (lN : List Int) (lS : List ByteArray) (lU : List S140) (lB : List S73) (lC : List S81) : Prop where
  i : RowOk 56 Q24 lI
  x : Q24 x
  n : RowOk 8 (IntOk .i64) lN
  s : RowOk 16 StrOk lS
  u : RowOk 96 Q140 lU
  b : RowOk 104 Q73 lB
  c : RowOk 224 (fun _ => True) lC
def LawWalk (n : Nat) : Prop :=
  ∀ (A0 : Option Addr) (c0 : Nat) (lI : List S24) (x : S24) (A1 : Option Addr) (c1 : Nat) (lN : List Int) (A2 : Option Addr) (c2 : Nat) (lS : List ByteArray) (A3 : Option Addr) (c3 : Nat) (lU : List S140) (A4 : Option Addr) (c4 : Nat) (lB : List S73) (A5 : Option Addr) (c5 : Nat) (lC : List S81) (w : World),
    Kd.C k24 w A0 lI.length lI → lI.length ≤ c0 → Kd.C (Kd.int .i64) w A1 lN.length lN → lN.length ≤ c1 → Kd.C Kd.string w A2 lS.length lS → lS.length ≤ c2 → Kd.C k140 w A3 lU.length lU → lU.length ≤ c3 → Kd.C k73 w A4 lB.length lB → lB.length ≤ c4 → Kd.C k81 w A5 lC.length lC → lC.length ≤ c5 → In15 lI x lN lS lU lB lC →
    Calls Try.prog n #[.agg #[.slice A0 lI.length c0, .int .i64 x.f0, .int .i64 x.f1, .int .i64 x.f2, .int .i64 x.f3, .int .i64 x.f4, .string x.f5, .slice A1 lN.length c1, .slice A2 lS.length c2, .slice A3 lU.length c3, .slice A4 lB.length c4, .slice A5 lC.length c5]] w fun e w' => e = .returned (.bool true) ∧ Below w.heap.size w w'
theorem ask_open {H : Type} {enc : TypeId × Value → H} {W : World} {base : Nat} {v : Value} {d : DataW H} {p : List MemPlace} (hv : ∃ cs, v = .agg cs ∧ cs.size = Try.prog.cellsOf 67 ∧ Row.okWide Try.prog W .any base 67 cs)
    (h : DataW.Trod enc Try.prog W 0 (fun _ => true) true 67 v d p) (hw : ∀ n ∈ d.weights Try.prog 67, n ≤ reachBytes) :
    ∃ (A0 : Option Addr) (c0 : Nat) (lI : List S24) (x : S24) (A1 : Option Addr) (c1 : Nat) (lN : List Int) (A2 : Option Addr) (c2 : Nat) (lS : List ByteArray) (A3 : Option Addr) (c3 : Nat) (lU : List S140) (A4 : Option Addr) (c4 : Nat) (lB : List S73) (A5 : Option Addr) (c5 : Nat) (lC : List S81),
      v = .agg #[.slice A0 lI.length c0, .int .i64 x.f0, .int .i64 x.f1, .int .i64 x.f2, .int .i64 x.f3, .int .i64 x.f4, .string x.f5, .slice A1 lN.length c1, .slice A2 lS.length c2, .slice A3 lU.length c3, .slice A4 lB.length c4, .slice A5 lC.length c5] ∧
      Kd.C k24 W A0 lI.length lI ∧ lI.length ≤ c0 ∧ Kd.C (Kd.int .i64) W A1 lN.length lN ∧ lN.length ≤ c1 ∧ Kd.C Kd.string W A2 lS.length lS ∧ lS.length ≤ c2 ∧ Kd.C k140 W A3 lU.length lU ∧ lU.length ≤ c3 ∧ Kd.C k73 W A4 lB.length lB ∧ lB.length ≤ c4 ∧ Kd.C k81 W A5 lC.length lC ∧ lC.length ≤ c5 ∧ In15 lI x lN lS lU lB lC := by
  obtain ⟨cs, rfl, _, _⟩ := hv; obtain ⟨fuel, hf⟩ := h; obtain ⟨x, hx, hq⟩ := opens67 enc W fuel _ (d, p) hf hw; obtain ⟨⟨lI, x, lN⟩, ⟨⟨lS, lU⟩, lB⟩, lC⟩ := x; obtain ⟨_, _, he, ⟨_, _, rfl, ⟨A0, c0, rfl, h0, g0⟩, ⟨_, _, rfl, hk, ⟨A1, c1, rfl, h1, g1⟩⟩⟩, ⟨_, _, rfl, ⟨_, _, rfl, ⟨_, _, rfl, ⟨A2, c2, rfl, h2, g2⟩, ⟨A3, c3, rfl, h3, g3⟩⟩, ⟨A4, c4, rfl, h4, g4⟩⟩, ⟨A5, c5, rfl, h5, g5⟩⟩⟩ := hx; have hk' := k24_open hk; subst hk'; refine ⟨A0, c0, lI, x, A1, c1, lN, A2, c2, lS, A3, c3, lU, A4, c4, lB, A5, c5, lC, ?_, g0, h0, g1, h1, g2, h2, g3, h3, g4, h4, g5, h5, ⟨hq.1.1, hq.1.2.1, hq.1.2.2, hq.2.1.1.1, hq.2.1.1.2, hq.2.1.2, hq.2.2⟩⟩; rw [show cs = #[.slice A0 lI.length c0, .int .i64 x.f0, .int .i64 x.f1, .int .i64 x.f2, .int .i64 x.f3, .int .i64 x.f4, .string x.f5, .slice A1 lN.length c1, .slice A2 lS.length c2, .slice A3 lU.length c3, .slice A4 lB.length c4, .slice A5 lC.length c5] from ?_]; apply Array.toList_inj.1; simpa [Value.cells] using he
end Go.Proofs.Ytibfkkjkahpobaa.PDag.S15
end
section
namespace Go.Proofs.Ytibfkkjkahpobaa.PDag
open Go.RowKit Go.Shelf Go.Proofs.YtibfkkjkahpobaaW.PrintWords Go.Proofs.YtibfkkjkahpobaaW.PrintLast
attribute [local go_sem] Oper.semAt_some
def comes (es : List S51) (j : Nat) : S51 := J51 es ((es.length : Int) - 1 - j)
def upto (n k : Nat) : List (Fin n) := (List.finRange n).take k
theorem upto_succ (n k : Nat) (h : k < n) : upto n (k + 1) = upto n k ++ [⟨k, h⟩] := by
  unfold upto; rw [List.take_succ_eq_append_getElem (by simpa using h)]; simp
theorem upto_length (n k : Nat) (h : k ≤ n) : (upto n k).length = k := by simp [upto, h]
theorem upto_all (es : List S51) : (upto es.length es.length).map (fun j : Fin es.length => comes es j.1) = es.reverse := by
  apply List.ext_getElem
  · simp [upto]
  · intro i h1 h2; have h3 : i < es.length := by simpa using h2
    simp only [upto, List.getElem_map, List.getElem_take, List.getElem_finRange, comes, J51, List.getElem_reverse]; simp only [Fin.val_cast]; rw [show ((es.length : Int) - 1 - i).toNat = es.length - 1 - i by omega, List.getD_eq_getElem?_getD, List.getElem?_eq_getElem (by omega)]; rfl
def KpB (n₀ Bs : Nat) (W W' : World) : Prop := Below n₀ W W' ∧ W'.heap[Bs]? = W.heap[Bs]?
theorem KpB.t {n₀ Bs : Nat} {A B C : World} (h : KpB n₀ Bs A B) (k : KpB n₀ Bs B C) : KpB n₀ Bs A C := ⟨h.1.trans k.1, k.2.trans h.2⟩
theorem KpB.b {n₀ Bs : Nat} {w : World} (hn : n₀ ≤ w.heap.size) (hb : Bs < w.heap.size) (W : World) (l : Nat) (o o' : Obj) (hl : w.heap.size ≤ l) (h : W.heap[l]? = some o) (h1 : o.isCells = false) (h2 : o.isWalk = false) : KpB n₀ Bs W (W.putObj l o') :=
  ⟨belowK_b hn W l o o' hl h h1 h2, World.putObj_heap_other (by omega)⟩
theorem back1_in (F : Fence) (n : Nat) (h116 : F.fn 116) (hro : F.round = none) (hn : 1 ≤ n) (l Bs : Nat) (A : Option Addr) (c : Nat) (es : List S51) (w0 : World) (hC : Kd.C k51 w0 A es.length es) (J Jx : List (Fin es.length) → World → Prop)
    (hY : ∀ pre (x : Fin es.length) W, J pre W → pre.length < es.length → YieldAt F (n - 1) Try.prog l #[.int .i64 ((es.length : Int) - 1 - (x.1 : Int)), .agg #[.int .i64 (comes es x.1).f0, .int .i64 (comes es x.1).f1, .int .i64 (comes es x.1).f2]] W fun e W' =>
      (e = .returned (.bool true) ∧ J (pre ++ [x]) W' ∧ KpB w0.heap.size Bs W W') ∨ (e = .returned (.bool false) ∧ Jx (pre ++ [x]) W'))
    (W : World) (hW : Below w0.heap.size w0 W) (hBs : W.heap[Bs]? = some (.cells #[.slice A es.length c] 31 (0, 0))) (h0 : J [] W) :
    CallsIn F n Try.prog 116 #[.func (.yield l) #[] #[], .pointer (some ⟨Bs, 0, none⟩)] W fun e W' => (∃ v, e = .returned v) ∧
      ((∃ ys, ys = upto es.length es.length ∧ J ys W') ∨ (∃ pre, (∃ k, k ≤ es.length ∧ pre = upto es.length k) ∧ Jx pre W')) := by
  have hu51 := Try.underlying51; have hmax := Kd.C_max hC; refine callsIn_of_wp Try.func116 rfl h116 ?_ hro; simp only [Try.ntmps116, List.size_toArray, List.length_cons, List.length_nil, Nat.reduceAdd, Nat.reduceSub, Array.replicate_succ, Array.replicate_zero, List.push_toArray, List.append_toArray, List.nil_append, List.cons_append]; have hcb : W.cell? ⟨Bs, 0, none⟩ = some (.slice A es.length c) := (bC_ hBs 0).trans rfl; have hw1 : wrap64 ((es.length : Int) - 1) = (es.length : Int) - 1 := by unfold wrap64; omega
  gi_wp2
  gi_loopw [3] (fun i wr => ∃ k : Nat, k ≤ es.length ∧ i = .int .i64 ((es.length : Int) - 1 - k) ∧ J (upto es.length k) wr ∧ KpB w0.heap.size Bs W wr)
    (fun i _ => (intOf i + 1).toNat)
  case atStart => exact ⟨0, Nat.zero_le _, by simp, h0, Below.refl _ _, rfl⟩
  case round =>
    obtain ⟨k, hk, rfl, hJs, hnx⟩ := hrel; have hbk := hnx.2.trans hBs; have hcb' : wr.cell? ⟨Bs, 0, none⟩ = some (.slice A es.length c) := (bC_ hbk 0).trans rfl
    by_cases hlt : k < es.length
    · obtain ⟨fn, tmps, assign, body, hy, hR⟩ := hY _ ⟨k, hlt⟩ wr hJs (by rw [upto_length _ _ hk]; exact hlt); have p0 : (0 : Int) ≤ (es.length : Int) - 1 - k := by omega
      have q0 : (es.length : Int) - 1 - k < (es.length : Int) := by omega
      obtain ⟨ad, e1, hx0, hx1, hx2⟩ := at_T51 hC _ p0 q0; subst e1; replace hx0 := ((hW.trans hnx.1).cell (World.block_lt_of_cell? w0 _ hx0)).trans hx0; replace hx1 := ((hW.trans hnx.1).cell (World.block_lt_of_cell? w0 _ hx1)).trans hx1; replace hx2 := ((hW.trans hnx.1).cell (World.block_lt_of_cell? w0 _ hx2)).trans hx2; dsimp only [comes] at hy; rw [show ((es.length : Int) - 1 - k).toNat = es.length - 1 - k by omega] at hx0 hx1 hx2; have hw2 : wrap64 ((es.length : Int) - 1 - k - 1) = (es.length : Int) - 1 - k - 1 := by unfold wrap64; omega
      replace p0 := eq_true p0; replace q0 := eq_true q0
      gi_wp2
      refine hR.mono ?_; rintro e W3 (⟨rfl, hJ3, hk3⟩ | ⟨rfl, hJx3⟩)
      · gi_wp2
        go_roundw
        case rel => exact ⟨k + 1, by omega, by (try rw [hw2]); congr 1; push_cast; omega, by rw [upto_succ _ _ hlt]; exact hJ3, hnx.t hk3⟩
        case measure => simp [intOf]; omega
      · gi_wp2
        refine bodyPost_ret (results_none rfl _ _ _) rfl ?_; exact ⟨⟨_, rfl⟩, .inr ⟨_, ⟨k + 1, by omega, (upto_succ _ _ hlt).symm⟩, hJx3⟩⟩
    · obtain rfl : k = es.length := by omega
      have hng : ¬ (0 : Int) ≤ (es.length : Int) - 1 - es.length := by omega
      gi_wp2
      go_end0
      first | exact ⟨⟨_, rfl⟩, .inl ⟨_, rfl, hJs⟩⟩ | exact ⟨⟨_, rfl⟩, .inl hJs⟩
theorem back_in (F : Fence) (n : Nat) (h93 : F.fn 93) (hro : F.round = none) (a : Option Addr) (len cap : Nat) (w : World) :
    CallsIn F n Try.prog 93 #[.slice a len cap] w fun e w' => e = .returned (.func (.func 116) #[] #[.pointer (some ⟨w.heap.size, 0, none⟩)]) ∧ w' = w.alloc (.cells #[.slice a len cap] 31) := by
  refine callsIn_of_wp Try.func93 rfl h93 ?_ hro; simp only [Try.ntmps93, List.size_toArray, List.length_cons, List.length_nil, Nat.reduceAdd, Nat.reduceSub, Array.replicate_succ, Array.replicate_zero, List.push_toArray, List.append_toArray, List.nil_append, List.cons_append]
  gi_wp2
  go_ret; exact ⟨rfl, rfl⟩
theorem back_stops (F : Fence) (n : Nat) (h116 : F.fn 116) (hro : F.round = none) (hn : 1 ≤ n) (Bs : Nat) (A : Option Addr) (c : Nat) (es : List S51) (w0 w : World) (hC : Kd.C k51 w0 A es.length es) (hw : Below w0.heap.size w0 w) (hBs : w.heap[Bs]? = some (.cells #[.slice A es.length c] 31 (0, 0))) :
    SeqStopsK F n Try.prog 116 #[.pointer (some ⟨Bs, 0, none⟩)] (fun x : Fin es.length => (#[.int .i64 ((es.length : Int) - 1 - (x.1 : Int)), .agg #[.int .i64 (comes es x.1).f0, .int .i64 (comes es x.1).f1, .int .i64 (comes es x.1).f2]] : Array Value)) (KpB w0.heap.size Bs) (fun ys => ys = upto es.length es.length)
      (fun pre => ∃ k, k ≤ es.length ∧ pre = upto es.length k) es.length w := fun l J Jx W hW _ _ hY h0 =>
  back1_in F n h116 hro hn l Bs A c es w0 hC J Jx hY W (hw.trans (hW.mono hw.size)) ((hW.block Bs (blk_lt hBs)).trans hBs) h0
section
variable {P : Program} {ops : Array Oper} {Q : Exit → Act → World → Prop} {md : Region.Mode} {S : World → Prop} {ds : List Nat}
def noDefer (ops : Array Oper) : Bool := ops.toList.all fun o => match o.op with | .defer _ => false | .call c => (match c.callee with | .builtin _ => true | _ => false) | _ => true
theorem noDefer_at (h : noDefer ops = true) {i : Nat} {o : Oper} (hi : ops[i]? = some o) : ∀ c, o.op ≠ .defer c := fun c e => by
  have hm : o ∈ ops.toList := by
    rw [← Array.getElem?_toList] at hi; exact List.mem_of_getElem? hi
  have := List.all_eq_true.1 h o hm; rw [e] at this; simp at this
theorem opIn_of_op {l n : Nat} (hnd : noDefer ops = true) (hL : ¬ LetsOut Q) {i : Nat} {K K' : Act → World → Prop} {a : Act} {w : World}
    (hk : ∀ a w, K a w → K' a w) (h : wpOp P ops Q i K a w) : wpOpIn (Fence.wide.inRound l) n P ops Q i K' a w := by
  unfold wpOp at h; unfold wpOpIn
  cases e : ops[i]? with
  | none => simp only [e] at h; exact hk _ _ h
  | some o =>
    simp only [e] at h; show if Region.wanted o (yielded ops a.tmps) = true then Oper.wpIn (Fence.wide.inRound l) n P o a w K' Q else _
    by_cases hw : Region.wanted o (yielded ops a.tmps) = true
    · rw [if_pos hw] at h ⊢; rcases h with h | h
      · refine ⟨fun _ _ => trivial, ?_⟩; have e2 : o.semAt (Fence.wide.inRound l).round a.eval = execOp a.eval o := Oper.semAt_some l a.eval o (noDefer_at hnd e); rw [e2]; unfold Oper.wp at h; generalize (execOp a.eval o).run P w = r at h ⊢
        cases r with
        | ok x w' =>
          cases x <;> simp only [Oper.upon] at h
          case value v => exact hk _ _ h
          case skip => exact hk _ _ h
          case defer d => exact hk _ _ h
          case enter f args =>
            refine ⟨fun h => (by cases h), ?_⟩; refine CallsIn.inRound l (CallsIn.mono (callsIn_wide.2 h) ?_); intro e w'' he
            cases e with
            | returned u => exact hk _ _ he
            | panicked c => exact he
            | outgrown => exact he
          case row row args =>
            refine ⟨fun h => (by cases h), ?_⟩; intro c cs _; obtain ⟨v, w2, r, s⟩ := h c cs
            exact ⟨v, w2, hk _ _ r, stepsIn_wide.2 s⟩
        | halt x w' =>
          cases x <;> simp only [Oper.upon] at h
          case panic u => exact h
      · exact absurd h.2 hL
    · rw [if_neg hw] at h ⊢; exact ⟨fun _ _ => trivial, hk _ _ h⟩
theorem anyIn_of_any {l n : Nat} (hnd : noDefer ops = true) (hL : ¬ LetsOut Q) : ∀ (fuel : Nat) (listed : Array Bool) (a : Act) (w : World), wpAny P md ops Q fuel listed a w → wpAnyIn (Fence.wide.inRound l) n P md ops Q fuel listed a w
  | 0, _, _, _, h => h
  | fuel + 1, listed, a, w, h => ⟨h.1, fun i hi => opIn_of_op hnd hL (fun a w h => anyIn_of_any hnd hL fuel _ a w h) (h.2 i hi)⟩
def OnlyNormal (Q : Exit → Act → World → Prop) : Exit → Act → World → Prop := fun e a w => match e with | .normal => Q .normal a w | _ => False
theorem wp_normal_only {c : Code} {a : Act} {w : World} (h : c.wp P (OnlyNormal Q) a w) : c.wp P Q a w :=
  Code.wp_mono (fun e a w hq => by cases e <;> first | exact hq | exact hq.elim) h
theorem startIn_ {id k n l : Nat} {a : Act} {w : World} (L : Array Bool) (hm : P.follows .mixedOrders = true) (hnd : noDefer ops = true) (hn : ops.size = n) (hl : Array.replicate n false = L) (hS : S w.drew)
    (h : S w.drew → wpAnyLast P .any ops (OnlyNormal Q) S ds n L a w.drew) : (Code.region id ops true).wpIn (Fence.wide.inRound l) k P Q a w := by
  subst hn; subst hl; refine Code.wpIn_mono (Q := OnlyNormal Q) (fun e a w hq => by cases e <;> first | exact hq | exact hq.elim) ?_; exact wpIn_region_any hm (anyIn_of_any hnd (fun ⟨a, w, h⟩ => h) _ _ _ _ (wpAny_of_last _ _ _ _ (h hS)))
end
end Go.Proofs.Ytibfkkjkahpobaa.PDag
end
section
namespace Go.Proofs.Ytibfkkjkahpobaa.PDag
attribute [local go_sem] max2_int min2_int max_two min_two max_three min_three max_four min_four
def r0_Between.f (a0 : Int) (a1 : Int) (a2 : Int) : Option (Bool) := if a0 ≥ a1 then (some (decide (a0 ≤ a2))) else (some false)
theorem r0_Between.calls (a0 : Int) (a1 : Int) (a2 : Int) (r : Bool) (w : World) (h : r0_Between.f a0 a1 a2 = some r) :
    Calls Try.prog 54 #[.int .i64 a0, .int .i64 a1, .int .i64 a2] w fun e w' => e = .returned (.bool r) ∧ Dr_ w w' := by
 have H : (if a0 ≥ a1 then (some (decide (a0 ≤ a2))) else (some false)) = some r := h; clear h
 by_cases c4 : a0 ≥ a1
 ·rw [if_pos c4] at H; have c4b0 := dE_ c4; clear c4; obtain rfl := oI_ H; go_enter Try.func54, Try.ntmps54; go_wp2; go_ret; exact ⟨eQ_, dR_⟩
 rw [if_neg c4] at H; have c4b0 := dF_ c4; clear c4; obtain rfl := oI_ H; go_enter Try.func54, Try.ntmps54; go_wp2; go_ret; exact ⟨eQ_, dR_⟩
def r3_Form.f (a0 : Int) : Option (Int) := (some (([0, 1, 1, 1, 1, 1, 1, 1, 1, 1, 1, 1, 1, 1, 1, 1, 1, 1, 1, 1, 1, 2, 3, 4, 3, 5, 6, 7, 8, 9, 9, 8, 0, 0] : List Int) : List Int)).bind fun y196 => (if 0 ≤ a0 then (if a0 < (y196.length : Int) then (some (rd y196 a0)) else (none)) else (none))
theorem r3_Form.calls (a0 : Int) (r : Int) (w : World) (h : r3_Form.f a0 = some r) :
    Calls Try.prog 15 #[.int .i64 a0] w fun e w' => e = .returned (.int .i64 r) ∧ Below w.heap.size w w' := by
 have HB := aM_ (Below.refl w.heap.size w); have H : ((some (([0, 1, 1, 1, 1, 1, 1, 1, 1, 1, 1, 1, 1, 1, 1, 1, 1, 1, 1, 1, 1, 2, 3, 4, 3, 5, 6, 7, 8, 9, 9, 8, 0, 0] : List Int) : List Int)).bind fun y196 => (if 0 ≤ a0 then (if a0 < (y196.length : Int) then (some (rd y196 a0)) else (none)) else (none))) = some r := h; clear h; obtain ⟨y196, hy196⟩ : ∃ y_ : List Int, y_ = (([0, 1, 1, 1, 1, 1, 1, 1, 1, 1, 1, 1, 1, 1, 1, 1, 1, 1, 1, 1, 1, 2, 3, 4, 3, 5, 6, 7, 8, 9, 9, 8, 0, 0] : List Int)) := ⟨_, rfl⟩
 replace H : (if 0 ≤ a0 then (if a0 < (y196.length : Int) then (some (rd y196 a0)) else (none)) else (none)) = some r := by first | (rw [hy196]; with_reducible exact H) | (have H2_ := (Option.bind_some _ _).symm.trans H; rw [hy196]; with_reducible exact H2_) | (have H2_ := (Option.bind_some _ _).symm.trans H; with_reducible exact H2_) | with_reducible exact H | (rw [hy196]; exact H) | exact H
 have Ny196 := aM_ hy196; clear hy196
 by_cases c2 : 0 ≤ a0
 ·rw [if_pos c2] at H; have c2b0 := dE_ c2; clear c2
  by_cases c3 : a0 < (y196.length : Int)
  ·rw [if_pos c3] at H; have c3b0 := dE_ c3; clear c3; obtain rfl := oI_ H; go_enter Try.func15, Try.ntmps15
   go_wp2_with (first | ((with_reducible refine gate_dst (N := 3) rfl ?_); refine Kd.R_lit (Kd.int .i64) _ 3 ?hg (N := 3) ?hd (xs := ([0, 1, 1, 1, 1, 1, 1, 1, 1, 1, 1, 1, 1, 1, 1, 1, 1, 1, 1, 1, 1, 2, 3, 4, 3, 5, 6, 7, 8, 9, 9, 8, 0, 0] : List Int)) (inner := [.int .i64 0, .int .i64 1, .int .i64 1, .int .i64 1, .int .i64 1, .int .i64 1, .int .i64 1, .int .i64 1, .int .i64 1, .int .i64 1, .int .i64 1, .int .i64 1, .int .i64 1, .int .i64 1, .int .i64 1, .int .i64 1, .int .i64 1, .int .i64 1, .int .i64 1, .int .i64 1, .int .i64 1, .int .i64 2, .int .i64 3, .int .i64 4, .int .i64 3, .int .i64 5, .int .i64 6, .int .i64 7, .int .i64 8, .int .i64 9, .int .i64 9, .int .i64 8, .int .i64 0, .int .i64 0]) (ok := fun _ => True) (okp := fun _ => True) ?hr ?hp (fun _ hk => hk) trivial (Below.refl _ _) (Nat.le_refl _) (by simp) ?_; (case hd => rfl); (case hg => rfl); (case hr => first | (go_simp; done) | (go_simp; rfl)); (case hp => exact (Reps.one (show Kd.M (Kd.int .i64) _ _ _ 0 [.int .i64 0] from rfl) (Reps.one (show Kd.M (Kd.int .i64) _ _ _ 1 [.int .i64 1] from rfl) (Reps.one (show Kd.M (Kd.int .i64) _ _ _ 1 [.int .i64 1] from rfl) (Reps.one (show Kd.M (Kd.int .i64) _ _ _ 1 [.int .i64 1] from rfl) (Reps.one (show Kd.M (Kd.int .i64) _ _ _ 1 [.int .i64 1] from rfl) (Reps.one (show Kd.M (Kd.int .i64) _ _ _ 1 [.int .i64 1] from rfl) (Reps.one (show Kd.M (Kd.int .i64) _ _ _ 1 [.int .i64 1] from rfl) (Reps.one (show Kd.M (Kd.int .i64) _ _ _ 1 [.int .i64 1] from rfl) (Reps.one (show Kd.M (Kd.int .i64) _ _ _ 1 [.int .i64 1] from rfl) (Reps.one (show Kd.M (Kd.int .i64) _ _ _ 1 [.int .i64 1] from rfl) (Reps.one (show Kd.M (Kd.int .i64) _ _ _ 1 [.int .i64 1] from rfl) (Reps.one (show Kd.M (Kd.int .i64) _ _ _ 1 [.int .i64 1] from rfl) (Reps.one (show Kd.M (Kd.int .i64) _ _ _ 1 [.int .i64 1] from rfl) (Reps.one (show Kd.M (Kd.int .i64) _ _ _ 1 [.int .i64 1] from rfl) (Reps.one (show Kd.M (Kd.int .i64) _ _ _ 1 [.int .i64 1] from rfl) (Reps.one (show Kd.M (Kd.int .i64) _ _ _ 1 [.int .i64 1] from rfl) (Reps.one (show Kd.M (Kd.int .i64) _ _ _ 1 [.int .i64 1] from rfl) (Reps.one (show Kd.M (Kd.int .i64) _ _ _ 1 [.int .i64 1] from rfl) (Reps.one (show Kd.M (Kd.int .i64) _ _ _ 1 [.int .i64 1] from rfl) (Reps.one (show Kd.M (Kd.int .i64) _ _ _ 1 [.int .i64 1] from rfl) (Reps.one (show Kd.M (Kd.int .i64) _ _ _ 1 [.int .i64 1] from rfl) (Reps.one (show Kd.M (Kd.int .i64) _ _ _ 2 [.int .i64 2] from rfl) (Reps.one (show Kd.M (Kd.int .i64) _ _ _ 3 [.int .i64 3] from rfl) (Reps.one (show Kd.M (Kd.int .i64) _ _ _ 4 [.int .i64 4] from rfl) (Reps.one (show Kd.M (Kd.int .i64) _ _ _ 3 [.int .i64 3] from rfl) (Reps.one (show Kd.M (Kd.int .i64) _ _ _ 5 [.int .i64 5] from rfl) (Reps.one (show Kd.M (Kd.int .i64) _ _ _ 6 [.int .i64 6] from rfl) (Reps.one (show Kd.M (Kd.int .i64) _ _ _ 7 [.int .i64 7] from rfl) (Reps.one (show Kd.M (Kd.int .i64) _ _ _ 8 [.int .i64 8] from rfl) (Reps.one (show Kd.M (Kd.int .i64) _ _ _ 9 [.int .i64 9] from rfl) (Reps.one (show Kd.M (Kd.int .i64) _ _ _ 9 [.int .i64 9] from rfl) (Reps.one (show Kd.M (Kd.int .i64) _ _ _ 8 [.int .i64 8] from rfl) (Reps.one (show Kd.M (Kd.int .i64) _ _ _ 0 [.int .i64 0] from rfl) (Reps.one (show Kd.M (Kd.int .i64) _ _ _ 0 [.int .i64 0] from rfl) (Reps.none _ _)))))))))))))))))))))))))))))))))))); intro v197 w4 ho5 hb hg_ hnew_; clear hg_ hnew_; (first | rw [← Ny196.out] at ho5 | (simp only [Int.reduceToNat] at ho5; rw [← Ny196.out] at ho5)); replace HO198 := aM_ (Kd.R_lower ho5 (bY_ (bl_ HB))); replace HB := aM_ (bT_ (bl_ HB) hb); clear hb ho5; obtain ⟨Ao6, co6, eo6⟩ := Kd.R_slice HO198.out; subst eo6; have p199 : 0 ≤ (a0 : Int) := oD_; have q199 : a0 < (y196.length : Int) := oD_; obtain ⟨ad199, e199, hx199_0⟩ := Kd.at_int (Kd.R_reads' HO198.out).2.2 a0 p199 q199; cases e199; replace p199 := eq_true p199; replace q199 := eq_true q199))
   go_ret; exact ⟨eR_, bl_ HB⟩
  rw [if_neg c3] at H; exact absurd H (by simp)
 rw [if_neg c2] at H; exact absurd H (by simp)
def r3_HasD.f (a0 : Int) : Option (Bool) := (r0_Between.f a0 1 4).bind fun t200 => (if t200 = true then (some true) else (some (a0 == 6)))
theorem r3_HasD.calls (a0 : Int) (r : Bool) (w : World) (h : r3_HasD.f a0 = some r) :
    Calls Try.prog 16 #[.int .i64 a0] w fun e w' => e = .returned (.bool r) ∧ Dr_ w w' := by
 have H : ((r0_Between.f a0 1 4).bind fun t200 => (if t200 = true then (some true) else (some (a0 == 6)))) = some r := h; clear h; obtain ⟨t200, A2, H⟩ := oB_ H
 by_cases c3 : t200 = true
 ·subst c3; rw [if_pos rfl] at H; obtain rfl := oI_ H; go_enter Try.func16, Try.ntmps16
  go_wp2_with (first | ((with_reducible refine gC_ (f := 54) rfl ?_); refine gL_ (some 4) Try.func54 #[.int .i64 a0, .int .i64 1, .int .i64 4] rfl ?_; (with_reducible refine (r0_Between.calls a0 1 4 true _ A2.out).mono ?_); rintro e w' ⟨rfl, ⟨nd, rfl⟩⟩; refine ⟨_, rfl, ?_⟩))
  go_ret; exact ⟨eQ_, dR_⟩
 replace c3 := eF_ c3; subst c3; rw [if_neg Bool.false_ne_true] at H; obtain rfl := oI_ H; go_enter Try.func16, Try.ntmps16
 go_wp2_with (first | ((with_reducible refine gC_ (f := 54) rfl ?_); refine gL_ (some 4) Try.func54 #[.int .i64 a0, .int .i64 1, .int .i64 4] rfl ?_; (with_reducible refine (r0_Between.calls a0 1 4 false _ A2.out).mono ?_); rintro e w' ⟨rfl, ⟨nd, rfl⟩⟩; refine ⟨_, rfl, ?_⟩))
 go_ret; exact ⟨eQ_, dR_⟩
def r3_HasA.f (a0 : Int) : Option (Bool) := (r0_Between.f a0 1 3).bind fun t205 => (if t205 = true then (some true) else (if a0 = 5 then (some true) else (if a0 = 7 then (some true) else (some (a0 == 9)))))
theorem r3_HasA.calls (a0 : Int) (r : Bool) (w : World) (h : r3_HasA.f a0 = some r) :
    Calls Try.prog 17 #[.int .i64 a0] w fun e w' => e = .returned (.bool r) ∧ Dr_ w w' := by
 have H : ((r0_Between.f a0 1 3).bind fun t205 => (if t205 = true then (some true) else (if a0 = 5 then (some true) else (if a0 = 7 then (some true) else (some (a0 == 9)))))) = some r := h; clear h; obtain ⟨t205, A2, H⟩ := oB_ H
 by_cases c3 : t205 = true
 ·subst c3; rw [if_pos rfl] at H; obtain rfl := oI_ H; go_enter Try.func17, Try.ntmps17
  go_wp2_with (first | ((with_reducible refine gC_ (f := 54) rfl ?_); refine gL_ (some 4) Try.func54 #[.int .i64 a0, .int .i64 1, .int .i64 3] rfl ?_; (with_reducible refine (r0_Between.calls a0 1 3 true _ A2.out).mono ?_); rintro e w' ⟨rfl, ⟨nd, rfl⟩⟩; refine ⟨_, rfl, ?_⟩))
  go_ret; exact ⟨eQ_, dR_⟩
 replace c3 := eF_ c3; subst c3; rw [if_neg Bool.false_ne_true] at H
 by_cases c4 : a0 = 5
 ·rw [if_pos c4] at H; have c4b0 := bH_ c4; have c4b1 := bF_ c4; clear c4; obtain rfl := oI_ H; go_enter Try.func17, Try.ntmps17
  go_wp2_with (first | ((with_reducible refine gC_ (f := 54) rfl ?_); refine gL_ (some 4) Try.func54 #[.int .i64 a0, .int .i64 1, .int .i64 3] rfl ?_; (with_reducible refine (r0_Between.calls a0 1 3 false _ A2.out).mono ?_); rintro e w' ⟨rfl, ⟨nd, rfl⟩⟩; refine ⟨_, rfl, ?_⟩))
  go_ret; exact ⟨eQ_, dR_⟩
 rw [if_neg c4] at H; have c4b0 := bE_ c4; have c4b1 := bG_ c4
 by_cases c5 : a0 = 7
 ·rw [if_pos c5] at H; have c5b0 := bH_ c5; have c5b1 := bF_ c5; clear c5; obtain rfl := oI_ H; go_enter Try.func17, Try.ntmps17
  go_wp2_with (first | ((with_reducible refine gC_ (f := 54) rfl ?_); refine gL_ (some 4) Try.func54 #[.int .i64 a0, .int .i64 1, .int .i64 3] rfl ?_; (with_reducible refine (r0_Between.calls a0 1 3 false _ A2.out).mono ?_); rintro e w' ⟨rfl, ⟨nd, rfl⟩⟩; refine ⟨_, rfl, ?_⟩))
  go_ret; exact ⟨eQ_, dR_⟩
 rw [if_neg c5] at H; have c5b0 := bE_ c5; have c5b1 := bG_ c5; obtain rfl := oI_ H; go_enter Try.func17, Try.ntmps17
 go_wp2_with (first | ((with_reducible refine gC_ (f := 54) rfl ?_); refine gL_ (some 4) Try.func54 #[.int .i64 a0, .int .i64 1, .int .i64 3] rfl ?_; (with_reducible refine (r0_Between.calls a0 1 3 false _ A2.out).mono ?_); rintro e w' ⟨rfl, ⟨nd, rfl⟩⟩; refine ⟨_, rfl, ?_⟩))
 go_ret; exact ⟨eQ_, dR_⟩
def r3_HasB.f (a0 : Int) : Option (Bool) := if a0 = 1 then (some true) else (some (a0 == 5))
theorem r3_HasB.calls (a0 : Int) (r : Bool) (w : World) (h : r3_HasB.f a0 = some r) :
    Calls Try.prog 18 #[.int .i64 a0] w fun e w' => e = .returned (.bool r) ∧ Dr_ w w' := by
 have H : (if a0 = 1 then (some true) else (some (a0 == 5))) = some r := h; clear h
 by_cases c2 : a0 = 1
 ·rw [if_pos c2] at H; have c2b0 := bH_ c2; have c2b1 := bF_ c2; clear c2; obtain rfl := oI_ H; go_enter Try.func18, Try.ntmps18; go_wp2; go_ret; exact ⟨eQ_, dR_⟩
 rw [if_neg c2] at H; have c2b0 := bE_ c2; have c2b1 := bG_ c2; obtain rfl := oI_ H; go_enter Try.func18, Try.ntmps18; go_wp2; go_ret; exact ⟨eQ_, dR_⟩
end Go.Proofs.Ytibfkkjkahpobaa.PDag
end
