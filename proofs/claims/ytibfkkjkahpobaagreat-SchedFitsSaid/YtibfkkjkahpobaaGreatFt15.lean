import Derived.Test.YtibfkkjkahpobaaGreatFt1
import Derived.WalkKit
import Derived.ProofKit
import Derived.SizedLaws
import Derived.OpenShut
import Derived.Deep.Slices
import Derived.Test.YtibfkkjkahpobaaGreatProg
import Derived.Below
import Derived.Deep.Draws
import Derived.Deep.AppendLies
import Derived.Maps.AppendAt
import Derived.OwnWalk
import Derived.Laws.BytesArg
import Derived.Laws.MakeOwn
import Derived.Laws.OwnMore
import Derived.Deep.OwnRows
import Derived.Tactics
import Derived.Lib.ConvBytes
import Derived.Laws.Slices
import Derived.KernelRfl
import Derived.RowKit3
import Derived.Deep.LoopGhost
import Derived.Deep.QuietTactic
import Derived.BigQuiet
import Derived.WideLaws
import Derived.Deep.DeepCutAuto
import Derived.Deep.CutBlock
import Derived.Deep.RegionHeld3
import Derived.Laws.Rows
import Derived.Lib.AppendStr
import Derived.ArgAppend
import Derived.Laws.IdiomCopy
import Derived.OrdersHeld
import Derived.Laws.BitsLemmas
import Derived.RowKit
import Derived.Test.YtibfkkjkahpobaaGreatFt0
import Derived.Test.YtibfkkjkahpobaaGreatFt14
import Derived.Test.YtibfkkjkahpobaaGreatFt11
import Derived.Test.YtibfkkjkahpobaaGreatFt2
import Derived.Test.YtibfkkjkahpobaaGreatFt3
import Derived.Test.YtibfkkjkahpobaaGreatFt8
import Derived.Test.YtibfkkjkahpobaaGreatFt5
import Derived.Test.YtibfkkjkahpobaaGreatFt6
import Derived.Test.YtibfkkjkahpobaaGreatFt7
import Derived.Test.YtibfkkjkahpobaaGreatFt9
import Derived.Test.YtibfkkjkahpobaaGreatFt4
import Derived.Test.YtibfkkjkahpobaaGreatFt13
import Derived.Test.YtibfkkjkahpobaaGreatFt10
import Derived.Test.YtibfkkjkahpobaaGreatFt12
import Derived.Test.YtibfkkjkahpobaaGreatRows
import Derived.ShutString
import Derived.ChangeOld
import Derived.RangeFuncNested
import Derived.RangeFuncBound
import Derived.RangeFuncCalls
import Derived.RangeFuncLeaves
import Derived.Shelf.Abstract
import Derived.OwnWalkIn
import Derived.TacticsInMore
import Derived.LoopNIn
import Derived.LoopIn
set_option linter.unusedVariables false
set_option linter.unusedSimpArgs false
set_option maxHeartbeats 8000000
set_option maxRecDepth 100000
section
namespace Go.Proofs.YtibfkkjkahpobaaGreatW.PrintWords
open Go.RowKit Go.Deep
def Opens {α : Type} (P : Program) (t : TypeId) (d : Kd α) (Q : α → Prop) : Prop :=
  ∀ {H : Type} (enc : TypeId × Value → H) (w : World) (fuel : Nat) (cs : List Value) (y : DataW H × List MemPlace),
    DataW.trod enc P w 0 (fun _ => true) true fuel t cs = some y → (∀ n ∈ y.1.weights P t, n ≤ reachBytes) → ∃ x, d.K w x cs ∧ Q x
def IntOk (k : IntKind) (x : Int) : Prop := (Lit.int k x).wf = true
def StrOk (s : ByteArray) : Prop := s.size ≤ 140737488351232
def RowOk {α : Type} (B : Nat) (Q : α → Prop) (xs : List α) : Prop := xs.length * B ≤ 140737488351232 ∧ ∀ x ∈ xs, Q x
def And2 {α β : Type} (Q : α → Prop) (Q' : β → Prop) (x : α × β) : Prop := Q x.1 ∧ Q' x.2
theorem opens_int {P : Program} {t : TypeId} {k : IntKind} (hu : P.underlying t = some (.int k)) : Opens P t (Kd.int k) (IntOk k) := by
  intro H enc w fuel cs y h _; obtain ⟨n, rfl, rfl, hn⟩ := DataW.trod_int hu h; exact ⟨n, rfl, hn⟩
theorem opens_bool {P : Program} {t : TypeId} (hu : P.underlying t = some .bool) : Opens P t Kd.bool (fun _ => True) := by
  intro H enc w fuel cs y h _; obtain ⟨n, rfl, rfl⟩ := DataW.trod_bool hu h; exact ⟨n, rfl, trivial⟩
theorem opens_string {P : Program} {t : TypeId} (hu : P.underlying t = some .string) : Opens P t Kd.string StrOk := by
  intro H enc w fuel cs y h hw; obtain ⟨n, rfl, rfl, hn⟩ := DataW.trod_string hu h; exact ⟨n, rfl, by simpa [DataW.weights, reachBytes, StrOk] using hw⟩
theorem weightsAll_mem' {H : Type} {P : Program} {e : TypeId} : ∀ {l : List (DataW H)} {d : DataW H}, d ∈ l → ∀ n ∈ d.weights P e, n ∈ DataW.weightsAll P e l
  | d0 :: l, d, hd, n, hn => by
    simp only [DataW.weightsAll, List.mem_append]; rcases List.mem_cons.1 hd with rfl | hd
    · exact .inl hn
    · exact .inr (weightsAll_mem' hd n hn)
theorem add_add' (a : Addr) (x y : Nat) : (a.add x).add y = a.add (x + y) := by
  unfold Addr.add
  by_cases hx : x = 0
  · subst hx; simp
  · by_cases hy : y = 0
    · subst hy; simp
    · rw [if_neg hx, if_neg hy, if_neg (by omega)]; simp [Nat.add_assoc]
theorem opens_slice {α : Type} [Inhabited α] {P : Program} {t e : TypeId} {d : Kd α} {Q : α → Prop} (hu : P.underlying t = some (.slice e)) (hc : P.cellsOf e = d.sz) {B : Nat} (hB : P.bytesOf e = B) (he : Opens P e d Q) :
    Opens P t (Kd.slice e d) (RowOk B Q) := by
  subst hB; intro H enc w fuel cs y h hw; rcases open_slice hu h with ⟨rfl, rfl⟩ | ⟨a, len, cap, m, n, D, Pl, rfl, hb, hl, hm, hmm, rfl, hx⟩
  · exact ⟨[], ⟨none, 0, rfl, Nat.le_refl _, by simp [Kd.C, ReadsRow]⟩, by simp [RowOk]⟩
  · simp only [DataW.weights, hu] at hw; have hmm' : m = cap := by simpa using hmm
    obtain ⟨X, hX⟩ := choose_lt (n := len) (p := fun i x => (∃ c, c.length = d.sz ∧ d.K w x c ∧ ∀ j u, c[j]? = some u → w.cell? (a.add (i * d.sz + j)) = some u) ∧ Q x) (fun i hi => by
      obtain ⟨cs', h1, h2⟩ := hx i (by omega); obtain ⟨_, h4, h5⟩ := World.cells?_some h1
      obtain ⟨x, hk, hq⟩ := he enc w n cs' _ h2 (fun k hk => hw k (by
        refine List.mem_cons_of_mem _ (List.mem_append_left _ (weightsAll_mem' ?_ k hk))
        exact List.mem_map.2 ⟨i, List.mem_range.2 hi, rfl⟩))
      refine ⟨x, ⟨cs', by rw [h4, hc], hk, fun j u hj => ?_⟩, hq⟩; have hj' : j < P.cellsOf e := by rw [← h4]; exact (List.getElem?_eq_some_iff.1 hj).1
      rw [← hc, ← add_add', h5 j hj', hj])
    refine ⟨(List.range len).map X, ⟨some a, cap, ?_, ?_, ?_⟩, ?_, ?_⟩
    · simp
    · simpa using hl
    · refine ⟨rfl, ?_, fun _ => ⟨a, rfl, fun j p hj => ?_⟩⟩
      · simp only [List.length_map, List.length_range]; have := hm; unfold maxLen at this; omega
      · obtain ⟨hj1, rfl⟩ := List.getElem?_eq_some_iff.1 hj; have hj2 : j < len := by simpa using hj1
        obtain ⟨⟨c, h1, h2, h3⟩, _⟩ := hX j hj2; refine ⟨c, h1, ?_, h3⟩; simpa using h2
    · have h1 := hw _ List.mem_cons_self; simp only [List.length_map, List.length_range] at h1 ⊢; refine Nat.le_trans (Nat.mul_le_mul_right _ ?_) h1; omega
    · intro x hx'; obtain ⟨i, hi, rfl⟩ := List.mem_map.1 hx'; exact (hX i (List.mem_range.1 hi)).2
theorem field_trod {H : Type} {enc : TypeId × Value → H} {P : Program} {w : World} {t : TypeId} {fs : Array Field} {fuel : Nat} {cs : List Value} {y : DataW H × List MemPlace} (hu : P.underlying t = some (.struct fs))
    (h : DataW.trod enc P w 0 (fun _ => true) true fuel t cs = some y) (hw : ∀ n ∈ y.1.weights P t, n ≤ reachBytes) :
    cs.length = P.cellsOf t ∧ ∃ n, ∀ (i : Nat) (f : Field), fs[i]? = some f → ∃ z, DataW.trod enc P w 0 (fun _ => true) true n f.type ((cs.drop f.offset).take (P.cellsOf f.type)) = some z ∧ ∀ k ∈ z.1.weights P f.type, k ≤ reachBytes := by
  obtain ⟨xs, n, rfl, rfl, hl, hx, hf⟩ := DataW.trod_struct hu h; refine ⟨hl, n, fun i f hi => ?_⟩; have hlt : i < xs.length := by rw [hx]; exact (Array.getElem?_eq_some_iff.1 hi).1
  refine ⟨xs[i], by rw [hf i f hi, List.getElem?_eq_getElem hlt], fun k hk => hw k ?_⟩; simp only [DataW.weights, hu]; refine DataW.weights_mem_each (j := i) (t := f.type) (d := xs[i].1) ?_ ?_ k hk
  · simp [hi]
  · simp [List.getElem?_eq_getElem hlt]
theorem elem_trod {H : Type} {enc : TypeId × Value → H} {P : Program} {w : World} {t e : TypeId} {m : Nat} {fuel : Nat} {cs : List Value} {y : DataW H × List MemPlace} (hu : P.underlying t = some (.array m e))
    (h : DataW.trod enc P w 0 (fun _ => true) true fuel t cs = some y) (hw : ∀ n ∈ y.1.weights P t, n ≤ reachBytes) :
    cs.length = P.cellsOf t ∧ ∃ n, ∀ i, i < m → ∃ z, DataW.trod enc P w 0 (fun _ => true) true n e ((cs.drop (i * P.cellsOf e)).take (P.cellsOf e)) = some z ∧ ∀ k ∈ z.1.weights P e, k ≤ reachBytes := by
  obtain ⟨xs, n, rfl, rfl, hl, hx, hf⟩ := DataW.trod_array hu h; refine ⟨hl, n, fun i hi => ?_⟩; have hlt : i < xs.length := by omega
  refine ⟨xs[i], by rw [hf i hi, List.getElem?_eq_getElem hlt], fun k hk => hw k ?_⟩; simp only [DataW.weights, hu]; exact weightsAll_mem' (List.mem_map.2 ⟨xs[i], List.getElem_mem hlt, rfl⟩) k hk
def OpensAt {α : Type} (P : Program) (fs : List (TypeId × Nat)) (off : Nat) (d : Kd α) (Q : α → Prop) : Prop :=
  ∀ {H : Type} (enc : TypeId × Value → H) (w : World) (n : Nat) (cs : List Value),
    (∀ f ∈ fs, ∃ z, DataW.trod enc P w 0 (fun _ => true) true n f.1 ((cs.drop f.2).take (P.cellsOf f.1)) = some z ∧ ∀ k ∈ z.1.weights P f.1, k ≤ reachBytes) → cs.length = off + d.sz → ∃ x, d.K w x (cs.drop off) ∧ Q x
theorem opensAt_last {α : Type} {P : Program} {t off : Nat} {d : Kd α} {Q : α → Prop} (hc : P.cellsOf t = d.sz) (ho : Opens P t d Q) : OpensAt P [(t, off)] off d Q := by
  intro H enc w n cs h hl; obtain ⟨z, h1, h2⟩ := h _ List.mem_cons_self; obtain ⟨x, hx, hq⟩ := ho enc w n _ z h1 h2; refine ⟨x, ?_, hq⟩; simp only [hc] at hx
  rwa [List.take_of_length_le (by rw [List.length_drop]; omega)] at hx
theorem opensAt_cons {α β : Type} {P : Program} {t off : Nat} {fs : List (TypeId × Nat)} {d : Kd α} {d' : Kd β} {Q : α → Prop} {Q' : β → Prop} (hc : P.cellsOf t = d.sz) (ho : Opens P t d Q) (hr : OpensAt P fs (off + d.sz) d' Q') :
    OpensAt P ((t, off) :: fs) off (Kd.pair d d') (And2 Q Q') := by
  intro H enc w n cs h hl; obtain ⟨z, h1, h2⟩ := h _ List.mem_cons_self; obtain ⟨x, hx, hq⟩ := ho enc w n _ z h1 h2; obtain ⟨x', hx', hq'⟩ := hr enc w n cs (fun f hf => h f (List.mem_cons_of_mem _ hf)) (by simp only [Kd.pair] at hl; omega); refine ⟨(x, x'), ⟨_, _, ?_, hx, hx'⟩, hq, hq'⟩; simp only [hc]; rw [← List.drop_drop, List.take_append_drop]
theorem opens_struct {α : Type} {P : Program} {t : Nat} {fs : Array Field} {d : Kd α} {Q : α → Prop} (hu : P.underlying t = some (.struct fs)) (hc : P.cellsOf t = d.sz) (h : OpensAt P (fs.toList.map fun f => (f.type, f.offset)) 0 d Q) : Opens P t d Q := by
  intro H enc w fuel cs y hy hw; obtain ⟨hl, n, hf⟩ := field_trod hu hy hw
  have := h enc w n cs (fun f hf' => by
    obtain ⟨g, hg, rfl⟩ := List.mem_map.1 hf'; obtain ⟨i, hi⟩ := List.getElem?_of_mem hg
    exact hf i g (by simpa using hi)) (by rw [hl, hc]; omega)
  simpa using this
theorem opens_array {α : Type} {P : Program} {t m e : Nat} {d : Kd α} {Q : α → Prop} (hu : P.underlying t = some (.array m e)) (hc : P.cellsOf t = d.sz) (h : OpensAt P ((List.range m).map fun i => (e, i * P.cellsOf e)) 0 d Q) : Opens P t d Q := by
  intro H enc w fuel cs y hy hw; obtain ⟨hl, n, hf⟩ := elem_trod hu hy hw
  have := h enc w n cs (fun f hf' => by
    obtain ⟨i, hi, rfl⟩ := List.mem_map.1 hf'
    exact hf i (List.mem_range.1 hi)) (by rw [hl, hc]; omega)
  simpa using this
theorem opens_iso {α β : Type} {P : Program} {t : Nat} {d : Kd α} {Q : α → Prop} (f : β → α) (g : α → β) (hfg : ∀ x, f (g x) = x) (h : Opens P t d Q) : Opens P t (Kd.iso d f) (fun x => Q (f x)) := by
  intro H enc w fuel cs y hy hw; obtain ⟨x, hx, hq⟩ := h enc w fuel cs y hy hw; exact ⟨g x, by show d.K w (f (g x)) cs; rwa [hfg], by show Q (f (g x)); rwa [hfg]⟩
theorem opens_mono {α : Type} {P : Program} {t : Nat} {d : Kd α} {Q Q' : α → Prop} (hq : ∀ x, Q x → Q' x) (h : Opens P t d Q) : Opens P t d Q' := by
  intro H enc w fuel cs y hy hw; obtain ⟨x, hx, hx'⟩ := h enc w fuel cs y hy hw; exact ⟨x, hx, hq x hx'⟩
end Go.Proofs.YtibfkkjkahpobaaGreatW.PrintWords
end
section
namespace Go.Proofs.YtibfkkjkahpobaaGreat.PDag
open Go.RowKit Go.Proofs.YtibfkkjkahpobaaGreatW.PrintWords Go.Proofs.YtibfkkjkahpobaaGreatW.PrintLast Go.Proofs.YtibfkkjkahpobaaGreatW.PrintMore
attribute [local go_sem] max2_int min2_int max_two min_two max_three min_three max_four min_four
def errW : Option Int → Value
  | none => .nilIface
  | some c => .iface 0 (.int .i64 c)
theorem eN_ : errW none = .nilIface := rfl
theorem eS_ (c : Int) : errW (some c) = .iface 0 (.int .i64 c) := rfl
def bm (n x : Nat) : Array Bool := ((List.range n).map x.testBit).toArray
section
variable {P : Program} {ops : Array Oper} {Q : Exit → Act → World → Prop} {md : Region.Mode} {S : World → Prop} {ds : List Nat}
def offB (md : Region.Mode) (ops : Array Oper) : List Nat → Array Bool → Array Bool → Bool
  | [], l, l' => l == l'
  | i :: is, l, l' => anyB md ops l (l.setIfInBounds i true) i && offB md ops is (l.setIfInBounds i true) l'
def offW (ops : Array Oper) : List Nat → Act → Bool
  | [], _ => true
  | i :: is, a => match ops[i]? with
    | some o => (Region.wanted o (yielded ops a.tmps) == false) && offW ops is (a.put o.dst undef)
    | none => false
def offN (ops : Array Oper) (is : List Nat) : List (Option Tmp) := is.map fun i => (ops[i]?).bind fun o => o.dst
def undefs : List (Option Tmp) → Act → Act
  | [], a => a
  | N :: Ns, a => undefs Ns (a.put N undef)
theorem offs_ {k n : Nat} {l : Array Bool} {a a' : Act} {w : World} (is : List Nat) (N : List (Option Tmp)) (l' : Array Bool) (hn : n = k + is.length) (hN : offN ops is = N) (hc : offB md ops is l l' = true)
    (hw : offW ops is a = true) (hQ0 : ∀ t v c a w, Q (.panic c) (a.put (some t) v) w → Q (.panic c) a w) (ha : undefs N a = a') (h : wpAnyLast P md ops Q S ds k l' a' w) : wpAnyLast P md ops Q S ds n l a w := by
 have hQ : ∀ d v c a w, Q (.panic c) (a.put d v) w → Q (.panic c) a w := fun d v => by
  cases d with
  | none => exact fun _ _ _ h => h
  | some t => exact hQ0 t v
 subst ha; subst hN; subst hn
 induction is generalizing l a with
 | nil =>
  obtain rfl : l = l' := by simpa [offB] using hc
  exact h
 | cons i is ih =>
  simp only [offB, Bool.and_eq_true] at hc; simp only [offW] at hw
  cases ho : ops[i]? with
  | none => rw [ho] at hw; cases hw
  | some o =>
   rw [ho] at hw; simp only [Bool.and_eq_true, beq_iff_eq] at hw; refine pure_ (fuel := k + is.length) (v := undef) (a' := a.put o.dst undef) (l.setIfInBounds i true) ho rfl hc.1 (fun c a w => hQ _ _ c a w) (Or.inr ⟨hw.1, rfl⟩) rfl ?_; refine ih hc.2 hw.2 ?_; have e : offN ops (i :: is) = o.dst :: offN ops is := by simp [offN, ho]
   rw [e] at h; exact h
def offT (T : Bool × List (List Nat × List Nat)) : List Nat → List Bool → List Bool → Bool
  | [], l, l' => l == l'
  | i :: is, l, l' => anyT T l (l.set i true) i && offT T is (l.set i true) l'
theorem off_of {T : Bool × List (List Nat × List Nat)} (hT : rtab md ops = T) : ∀ {is : List Nat} {l l' : Array Bool}, offT T is l.toList l'.toList = true → offB md ops is l l' = true
  | [], l, l', h => by
    simp only [offT, beq_iff_eq] at h; simp only [offB, beq_iff_eq]
    exact Array.toList_inj.1 h
  | i :: is, l, l', h => by
    simp only [offT, Bool.and_eq_true] at h; simp only [offB, Bool.and_eq_true]; have e : (l.setIfInBounds i true).toList = l.toList.set i true := by simp
    exact ⟨any_of hT (by rw [e]; exact h.1), off_of hT (by rw [e]; exact h.2)⟩
end
section
variable {P : Program} {ops : Array Oper} {Q : Exit → Act → World → Prop} {md : Region.Mode} {S : World → Prop} {ds : List Nat}
def SeqOn (P : Program) (ops : Array Oper) (S : World → Prop) (K : Act → Prop) : List (Nat × Option Tmp × Bool) → Act → Prop
  | [], a => K a
  | (i, N, r) :: is, a => ∃ oi v, ops[i]? = some oi ∧ oi.dst = N ∧ (if r = true then YieldsIf P ops S oi v a else Yields P ops oi v a) ∧ SeqOn P ops S K is (a.put N v)
theorem SeqOn.nil {K : Act → Prop} {a : Act} (h : K a) : SeqOn P ops S K [] a := h
theorem SeqOn.pure {K : Act → Prop} {i : Nat} {N : Option Tmp} {is : List (Nat × Option Tmp × Bool)} {a a' : Act} {oi : Oper} {v : Value} (hi : ops[i]? = some oi) (hN : oi.dst = N) (hy : Yields P ops oi v a) (ha : a.put N v = a') (h : SeqOn P ops S K is a') : SeqOn P ops S K ((i, N, false) :: is) a := by
 subst ha; exact ⟨oi, v, hi, hN, hy, h⟩
theorem SeqOn.take {K : Act → Prop} {i : Nat} {N : Option Tmp} {is : List (Nat × Option Tmp × Bool)} {a a' : Act} {oi : Oper} {v : Value} (hi : ops[i]? = some oi) (hN : oi.dst = N) (hy : YieldsIf P ops S oi v a) (ha : a.put N v = a') (h : SeqOn P ops S K is a') : SeqOn P ops S K ((i, N, true) :: is) a := by
 subst ha; exact ⟨oi, v, hi, hN, hy, h⟩
end
theorem info3 : (Tryz.prog.info? 3).map (fun i => (i.zero, i.size, i.bytes)) = some (some (.int .i64 0), 1, 8) := by kernel_rfl
theorem info24 : (Tryz.prog.info? 24).map (fun i => (i.zero, i.size, i.bytes)) = some (some (.agg #[(.int .i64 0), (.int .i64 0), (.int .i64 0), (.int .i64 0), (.int .i64 0), (.string ⟨#[]⟩)]), 6, 56) := by kernel_rfl
theorem info100 : (Tryz.prog.info? 100).map (fun i => (i.zero, i.size, i.bytes)) = some (some (.agg #[(.int .i64 0), (.int .i64 0), (.int .i64 0)]), 3, 24) := by kernel_rfl
structure S24 where
  f0 : Int
  f1 : Int
  f2 : Int
  f3 : Int
  f4 : Int
  f5 : ByteArray
def z24 : S24 := ⟨(0 : Int), (0 : Int), (0 : Int), (0 : Int), (0 : Int), (⟨#[]⟩ : ByteArray)⟩
def k24 : Kd S24 := Kd.iso (Kd.pair (Kd.int .i64) (Kd.pair (Kd.int .i64) (Kd.pair (Kd.int .i64) (Kd.pair (Kd.int .i64) (Kd.pair (Kd.int .i64) Kd.string))))) (fun x : S24 => (x.f0, x.f1, x.f2, x.f3, x.f4, x.f5))
theorem k24_open {w : World} {x : S24} {cs : List Value} (h : k24.K w x cs) : cs = [.int .i64 x.f0, .int .i64 x.f1, .int .i64 x.f2, .int .i64 x.f3, .int .i64 x.f4, .string x.f5] := by
 obtain ⟨_, _, rfl, rfl, ⟨_, _, rfl, rfl, ⟨_, _, rfl, rfl, ⟨_, _, rfl, rfl, ⟨_, _, rfl, rfl, rfl⟩⟩⟩⟩⟩ := h; exact rfl
theorem k24_openM {w : World} {base : Nat} {ok : Nat → Prop} {x : S24} {cs : List Value} (h : k24.M w base ok x cs) : cs = [.int .i64 x.f0, .int .i64 x.f1, .int .i64 x.f2, .int .i64 x.f3, .int .i64 x.f4, .string x.f5] := by
 obtain ⟨_, _, rfl, rfl, ⟨_, _, rfl, rfl, ⟨_, _, rfl, rfl, ⟨_, _, rfl, rfl, ⟨_, _, rfl, rfl, rfl⟩⟩⟩⟩⟩ := h; exact rfl
theorem k24_mkM (w : World) (base : Nat) (ok : Nat → Prop) (x : S24)  : k24.M w base ok x [.int .i64 x.f0, .int .i64 x.f1, .int .i64 x.f2, .int .i64 x.f3, .int .i64 x.f4, .string x.f5] := ⟨[.int .i64 x.f0], [.int .i64 x.f1, .int .i64 x.f2, .int .i64 x.f3, .int .i64 x.f4, .string x.f5], rfl, rfl, ⟨[.int .i64 x.f1], [.int .i64 x.f2, .int .i64 x.f3, .int .i64 x.f4, .string x.f5], rfl, rfl, ⟨[.int .i64 x.f2], [.int .i64 x.f3, .int .i64 x.f4, .string x.f5], rfl, rfl, ⟨[.int .i64 x.f3], [.int .i64 x.f4, .string x.f5], rfl, rfl, ⟨[.int .i64 x.f4], [.string x.f5], rfl, rfl, rfl⟩⟩⟩⟩⟩
def J24 (xs : List S24) (i : Int) : S24 := xs.getD i.toNat z24
theorem at_T24 {w : World} {A : Option Addr} {n : Nat} {xs : List S24} (h : Kd.C k24 w A n xs) (i : Int) (h0 : 0 ≤ i) (h1 : i < n) : ∃ ad , A = some ad ∧ w.cell? (ad.add (i.toNat * 6)) = some (.int .i64 (J24 xs i).f0) ∧ w.cell? ⟨(ad.add (i.toNat * 6)).block, (ad.add (i.toNat * 6)).off + 1, none⟩ = some (.int .i64 (J24 xs i).f1) ∧ w.cell? ⟨(ad.add (i.toNat * 6)).block, (ad.add (i.toNat * 6)).off + 2, none⟩ = some (.int .i64 (J24 xs i).f2) ∧ w.cell? ⟨(ad.add (i.toNat * 6)).block, (ad.add (i.toNat * 6)).off + 3, none⟩ = some (.int .i64 (J24 xs i).f3) ∧ w.cell? ⟨(ad.add (i.toNat * 6)).block, (ad.add (i.toNat * 6)).off + 4, none⟩ = some (.int .i64 (J24 xs i).f4) ∧ w.cell? ⟨(ad.add (i.toNat * 6)).block, (ad.add (i.toNat * 6)).off + 5, none⟩ = some (.string (J24 xs i).f5) := by
 obtain ⟨ad, c, e, _, hK, hc0⟩ := Kd.C_get h z24 i h0 h1; have hc : ∀ j u, c[j]? = some u → w.cell? (ad.add (i.toNat * 6 + j)) = some u := hc0; obtain rfl := k24_open hK; exact ⟨ad, e, hc 0 _ rfl, by rw [← add_field _ _ 1 (by omega)]; exact hc 1 _ rfl, by rw [← add_field _ _ 2 (by omega)]; exact hc 2 _ rfl, by rw [← add_field _ _ 3 (by omega)]; exact hc 3 _ rfl, by rw [← add_field _ _ 4 (by omega)]; exact hc 4 _ rfl, by rw [← add_field _ _ 5 (by omega)]; exact hc 5 _ rfl⟩
structure S132 where
  f0 : ByteArray
  f1 : S24
def k132 : Kd S132 := Kd.iso (Kd.pair Kd.string k24) (fun x : S132 => (x.f0, x.f1))
structure S134 where
  f0 : ByteArray
  f1 : Int
def k134 : Kd S134 := Kd.iso (Kd.pair Kd.string (Kd.int .i64)) (fun x : S134 => (x.f0, x.f1))
structure S136 where
  f0 : ByteArray
  f1 : Bool
  f2 : Int
  f3 : Bool
def k136 : Kd S136 := Kd.iso (Kd.pair Kd.string (Kd.pair Kd.bool (Kd.pair (Kd.int .i64) Kd.bool))) (fun x : S136 => (x.f0, x.f1, x.f2, x.f3))
structure S122 where
  f0 : (List S132)
  f1 : (List S134)
  f2 : (List S136)
  f3 : (List ByteArray)
def k122 : Kd S122 := Kd.iso (Kd.pair (Kd.slice 132 k132) (Kd.pair (Kd.slice 134 k134) (Kd.pair (Kd.slice 136 k136) (Kd.slice 9 Kd.string)))) (fun x : S122 => (x.f0, x.f1, x.f2, x.f3))
structure S41 where
  f0 : (List ByteArray)
  f1 : (List S24)
  f2 : S24
def k41 : Kd S41 := Kd.iso (Kd.pair (Kd.slice 9 Kd.string) (Kd.pair (Kd.slice 24 k24) k24)) (fun x : S41 => (x.f0, x.f1, x.f2))
structure S62 where
  f0 : S24
  f1 : S24
  f2 : S24
  f3 : S24
def z62 : S62 := ⟨z24, z24, z24, z24⟩
def k62 : Kd S62 := Kd.iso (Kd.pair k24 (Kd.pair k24 (Kd.pair k24 k24))) (fun x : S62 => (x.f0, x.f1, x.f2, x.f3))
theorem k62_open {w : World} {x : S62} {cs : List Value} (h : k62.K w x cs) : cs = [.int .i64 x.f0.f0, .int .i64 x.f0.f1, .int .i64 x.f0.f2, .int .i64 x.f0.f3, .int .i64 x.f0.f4, .string x.f0.f5, .int .i64 x.f1.f0, .int .i64 x.f1.f1, .int .i64 x.f1.f2, .int .i64 x.f1.f3, .int .i64 x.f1.f4, .string x.f1.f5, .int .i64 x.f2.f0, .int .i64 x.f2.f1, .int .i64 x.f2.f2, .int .i64 x.f2.f3, .int .i64 x.f2.f4, .string x.f2.f5, .int .i64 x.f3.f0, .int .i64 x.f3.f1, .int .i64 x.f3.f2, .int .i64 x.f3.f3, .int .i64 x.f3.f4, .string x.f3.f5] := by
 obtain ⟨_, _, rfl, s0, ⟨_, _, rfl, s6, ⟨_, _, rfl, s12, s18⟩⟩⟩ := h; obtain rfl := k24_open s0; obtain rfl := k24_open s6; obtain rfl := k24_open s12; obtain rfl := k24_open s18; exact rfl
theorem k62_openM {w : World} {base : Nat} {ok : Nat → Prop} {x : S62} {cs : List Value} (h : k62.M w base ok x cs) : cs = [.int .i64 x.f0.f0, .int .i64 x.f0.f1, .int .i64 x.f0.f2, .int .i64 x.f0.f3, .int .i64 x.f0.f4, .string x.f0.f5, .int .i64 x.f1.f0, .int .i64 x.f1.f1, .int .i64 x.f1.f2, .int .i64 x.f1.f3, .int .i64 x.f1.f4, .string x.f1.f5, .int .i64 x.f2.f0, .int .i64 x.f2.f1, .int .i64 x.f2.f2, .int .i64 x.f2.f3, .int .i64 x.f2.f4, .string x.f2.f5, .int .i64 x.f3.f0, .int .i64 x.f3.f1, .int .i64 x.f3.f2, .int .i64 x.f3.f3, .int .i64 x.f3.f4, .string x.f3.f5] := by
 obtain ⟨_, _, rfl, s0, ⟨_, _, rfl, s6, ⟨_, _, rfl, s12, s18⟩⟩⟩ := h; obtain rfl := k24_openM s0; obtain rfl := k24_openM s6; obtain rfl := k24_openM s12; obtain rfl := k24_openM s18; exact rfl
theorem k62_mkM (w : World) (base : Nat) (ok : Nat → Prop) (x : S62)  : k62.M w base ok x [.int .i64 x.f0.f0, .int .i64 x.f0.f1, .int .i64 x.f0.f2, .int .i64 x.f0.f3, .int .i64 x.f0.f4, .string x.f0.f5, .int .i64 x.f1.f0, .int .i64 x.f1.f1, .int .i64 x.f1.f2, .int .i64 x.f1.f3, .int .i64 x.f1.f4, .string x.f1.f5, .int .i64 x.f2.f0, .int .i64 x.f2.f1, .int .i64 x.f2.f2, .int .i64 x.f2.f3, .int .i64 x.f2.f4, .string x.f2.f5, .int .i64 x.f3.f0, .int .i64 x.f3.f1, .int .i64 x.f3.f2, .int .i64 x.f3.f3, .int .i64 x.f3.f4, .string x.f3.f5] := ⟨[.int .i64 x.f0.f0, .int .i64 x.f0.f1, .int .i64 x.f0.f2, .int .i64 x.f0.f3, .int .i64 x.f0.f4, .string x.f0.f5], [.int .i64 x.f1.f0, .int .i64 x.f1.f1, .int .i64 x.f1.f2, .int .i64 x.f1.f3, .int .i64 x.f1.f4, .string x.f1.f5, .int .i64 x.f2.f0, .int .i64 x.f2.f1, .int .i64 x.f2.f2, .int .i64 x.f2.f3, .int .i64 x.f2.f4, .string x.f2.f5, .int .i64 x.f3.f0, .int .i64 x.f3.f1, .int .i64 x.f3.f2, .int .i64 x.f3.f3, .int .i64 x.f3.f4, .string x.f3.f5], rfl, (k24_mkM w base ok x.f0 ), ⟨[.int .i64 x.f1.f0, .int .i64 x.f1.f1, .int .i64 x.f1.f2, .int .i64 x.f1.f3, .int .i64 x.f1.f4, .string x.f1.f5], [.int .i64 x.f2.f0, .int .i64 x.f2.f1, .int .i64 x.f2.f2, .int .i64 x.f2.f3, .int .i64 x.f2.f4, .string x.f2.f5, .int .i64 x.f3.f0, .int .i64 x.f3.f1, .int .i64 x.f3.f2, .int .i64 x.f3.f3, .int .i64 x.f3.f4, .string x.f3.f5], rfl, (k24_mkM w base ok x.f1 ), ⟨[.int .i64 x.f2.f0, .int .i64 x.f2.f1, .int .i64 x.f2.f2, .int .i64 x.f2.f3, .int .i64 x.f2.f4, .string x.f2.f5], [.int .i64 x.f3.f0, .int .i64 x.f3.f1, .int .i64 x.f3.f2, .int .i64 x.f3.f3, .int .i64 x.f3.f4, .string x.f3.f5], rfl, (k24_mkM w base ok x.f2 ), (k24_mkM w base ok x.f3 )⟩⟩⟩
def J62 (xs : List S62) (i : Int) : S62 := xs.getD i.toNat z62
theorem at_T62 {w : World} {A : Option Addr} {n : Nat} {xs : List S62} (h : Kd.C k62 w A n xs) (i : Int) (h0 : 0 ≤ i) (h1 : i < n) : ∃ ad , A = some ad ∧ w.cell? (ad.add (i.toNat * 24)) = some (.int .i64 (J62 xs i).f0.f0) ∧ w.cell? ⟨(ad.add (i.toNat * 24)).block, (ad.add (i.toNat * 24)).off + 1, none⟩ = some (.int .i64 (J62 xs i).f0.f1) ∧ w.cell? ⟨(ad.add (i.toNat * 24)).block, (ad.add (i.toNat * 24)).off + 2, none⟩ = some (.int .i64 (J62 xs i).f0.f2) ∧ w.cell? ⟨(ad.add (i.toNat * 24)).block, (ad.add (i.toNat * 24)).off + 3, none⟩ = some (.int .i64 (J62 xs i).f0.f3) ∧ w.cell? ⟨(ad.add (i.toNat * 24)).block, (ad.add (i.toNat * 24)).off + 4, none⟩ = some (.int .i64 (J62 xs i).f0.f4) ∧ w.cell? ⟨(ad.add (i.toNat * 24)).block, (ad.add (i.toNat * 24)).off + 5, none⟩ = some (.string (J62 xs i).f0.f5) ∧ w.cell? ⟨(ad.add (i.toNat * 24)).block, (ad.add (i.toNat * 24)).off + 6, none⟩ = some (.int .i64 (J62 xs i).f1.f0) ∧ w.cell? ⟨(ad.add (i.toNat * 24)).block, (ad.add (i.toNat * 24)).off + 7, none⟩ = some (.int .i64 (J62 xs i).f1.f1) ∧ w.cell? ⟨(ad.add (i.toNat * 24)).block, (ad.add (i.toNat * 24)).off + 8, none⟩ = some (.int .i64 (J62 xs i).f1.f2) ∧ w.cell? ⟨(ad.add (i.toNat * 24)).block, (ad.add (i.toNat * 24)).off + 9, none⟩ = some (.int .i64 (J62 xs i).f1.f3) ∧ w.cell? ⟨(ad.add (i.toNat * 24)).block, (ad.add (i.toNat * 24)).off + 10, none⟩ = some (.int .i64 (J62 xs i).f1.f4) ∧ w.cell? ⟨(ad.add (i.toNat * 24)).block, (ad.add (i.toNat * 24)).off + 11, none⟩ = some (.string (J62 xs i).f1.f5) ∧ w.cell? ⟨(ad.add (i.toNat * 24)).block, (ad.add (i.toNat * 24)).off + 12, none⟩ = some (.int .i64 (J62 xs i).f2.f0) ∧ w.cell? ⟨(ad.add (i.toNat * 24)).block, (ad.add (i.toNat * 24)).off + 13, none⟩ = some (.int .i64 (J62 xs i).f2.f1) ∧ w.cell? ⟨(ad.add (i.toNat * 24)).block, (ad.add (i.toNat * 24)).off + 14, none⟩ = some (.int .i64 (J62 xs i).f2.f2) ∧ w.cell? ⟨(ad.add (i.toNat * 24)).block, (ad.add (i.toNat * 24)).off + 15, none⟩ = some (.int .i64 (J62 xs i).f2.f3) ∧ w.cell? ⟨(ad.add (i.toNat * 24)).block, (ad.add (i.toNat * 24)).off + 16, none⟩ = some (.int .i64 (J62 xs i).f2.f4) ∧ w.cell? ⟨(ad.add (i.toNat * 24)).block, (ad.add (i.toNat * 24)).off + 17, none⟩ = some (.string (J62 xs i).f2.f5) ∧ w.cell? ⟨(ad.add (i.toNat * 24)).block, (ad.add (i.toNat * 24)).off + 18, none⟩ = some (.int .i64 (J62 xs i).f3.f0) ∧ w.cell? ⟨(ad.add (i.toNat * 24)).block, (ad.add (i.toNat * 24)).off + 19, none⟩ = some (.int .i64 (J62 xs i).f3.f1) ∧ w.cell? ⟨(ad.add (i.toNat * 24)).block, (ad.add (i.toNat * 24)).off + 20, none⟩ = some (.int .i64 (J62 xs i).f3.f2) ∧ w.cell? ⟨(ad.add (i.toNat * 24)).block, (ad.add (i.toNat * 24)).off + 21, none⟩ = some (.int .i64 (J62 xs i).f3.f3) ∧ w.cell? ⟨(ad.add (i.toNat * 24)).block, (ad.add (i.toNat * 24)).off + 22, none⟩ = some (.int .i64 (J62 xs i).f3.f4) ∧ w.cell? ⟨(ad.add (i.toNat * 24)).block, (ad.add (i.toNat * 24)).off + 23, none⟩ = some (.string (J62 xs i).f3.f5) := by
 obtain ⟨ad, c, e, _, hK, hc0⟩ := Kd.C_get h z62 i h0 h1; have hc : ∀ j u, c[j]? = some u → w.cell? (ad.add (i.toNat * 24 + j)) = some u := hc0; obtain rfl := k62_open hK; exact ⟨ad, e, hc 0 _ rfl, by rw [← add_field _ _ 1 (by omega)]; exact hc 1 _ rfl, by rw [← add_field _ _ 2 (by omega)]; exact hc 2 _ rfl, by rw [← add_field _ _ 3 (by omega)]; exact hc 3 _ rfl, by rw [← add_field _ _ 4 (by omega)]; exact hc 4 _ rfl, by rw [← add_field _ _ 5 (by omega)]; exact hc 5 _ rfl, by rw [← add_field _ _ 6 (by omega)]; exact hc 6 _ rfl, by rw [← add_field _ _ 7 (by omega)]; exact hc 7 _ rfl, by rw [← add_field _ _ 8 (by omega)]; exact hc 8 _ rfl, by rw [← add_field _ _ 9 (by omega)]; exact hc 9 _ rfl, by rw [← add_field _ _ 10 (by omega)]; exact hc 10 _ rfl, by rw [← add_field _ _ 11 (by omega)]; exact hc 11 _ rfl, by rw [← add_field _ _ 12 (by omega)]; exact hc 12 _ rfl, by rw [← add_field _ _ 13 (by omega)]; exact hc 13 _ rfl, by rw [← add_field _ _ 14 (by omega)]; exact hc 14 _ rfl, by rw [← add_field _ _ 15 (by omega)]; exact hc 15 _ rfl, by rw [← add_field _ _ 16 (by omega)]; exact hc 16 _ rfl, by rw [← add_field _ _ 17 (by omega)]; exact hc 17 _ rfl, by rw [← add_field _ _ 18 (by omega)]; exact hc 18 _ rfl, by rw [← add_field _ _ 19 (by omega)]; exact hc 19 _ rfl, by rw [← add_field _ _ 20 (by omega)]; exact hc 20 _ rfl, by rw [← add_field _ _ 21 (by omega)]; exact hc 21 _ rfl, by rw [← add_field _ _ 22 (by omega)]; exact hc 22 _ rfl, by rw [← add_field _ _ 23 (by omega)]; exact hc 23 _ rfl⟩
structure S100 where
  f0 : Int
  f1 : Int
  f2 : Int
def z100 : S100 := ⟨(0 : Int), (0 : Int), (0 : Int)⟩
def k100 : Kd S100 := Kd.iso (Kd.pair (Kd.int .i64) (Kd.pair (Kd.int .i64) (Kd.int .i64))) (fun x : S100 => (x.f0, x.f1, x.f2))
theorem k100_open {w : World} {x : S100} {cs : List Value} (h : k100.K w x cs) : cs = [.int .i64 x.f0, .int .i64 x.f1, .int .i64 x.f2] := by
 obtain ⟨_, _, rfl, rfl, ⟨_, _, rfl, rfl, rfl⟩⟩ := h; exact rfl
theorem k100_mkM (w : World) (base : Nat) (ok : Nat → Prop) (x : S100)  : k100.M w base ok x [.int .i64 x.f0, .int .i64 x.f1, .int .i64 x.f2] := ⟨[.int .i64 x.f0], [.int .i64 x.f1, .int .i64 x.f2], rfl, rfl, ⟨[.int .i64 x.f1], [.int .i64 x.f2], rfl, rfl, rfl⟩⟩
def J100 (xs : List S100) (i : Int) : S100 := xs.getD i.toNat z100
theorem at_T100 {w : World} {A : Option Addr} {n : Nat} {xs : List S100} (h : Kd.C k100 w A n xs) (i : Int) (h0 : 0 ≤ i) (h1 : i < n) : ∃ ad , A = some ad ∧ w.cell? (ad.add (i.toNat * 3)) = some (.int .i64 (J100 xs i).f0) ∧ w.cell? ⟨(ad.add (i.toNat * 3)).block, (ad.add (i.toNat * 3)).off + 1, none⟩ = some (.int .i64 (J100 xs i).f1) ∧ w.cell? ⟨(ad.add (i.toNat * 3)).block, (ad.add (i.toNat * 3)).off + 2, none⟩ = some (.int .i64 (J100 xs i).f2) := by
 obtain ⟨ad, c, e, _, hK, hc0⟩ := Kd.C_get h z100 i h0 h1; have hc : ∀ j u, c[j]? = some u → w.cell? (ad.add (i.toNat * 3 + j)) = some u := hc0; obtain rfl := k100_open hK; exact ⟨ad, e, hc 0 _ rfl, by rw [← add_field _ _ 1 (by omega)]; exact hc 1 _ rfl, by rw [← add_field _ _ 2 (by omega)]; exact hc 2 _ rfl⟩
end Go.Proofs.YtibfkkjkahpobaaGreat.PDag
namespace Go.Proofs.YtibfkkjkahpobaaGreat.PDag
theorem eR_ {α : Sort _} {a b : α} (h : a = b := by first | rfl | (simp [eN_, eS_] <;> rfl) | (simp [*, eN_, eS_] <;> rfl)) : a = b := h
end Go.Proofs.YtibfkkjkahpobaaGreat.PDag
end
section
namespace Go.Proofs.YtibfkkjkahpobaaGreat.PDag
open Go.ChangeShapes Go.WideShapes Go.ChangeAt Go.RowKit Go.Proofs.YtibfkkjkahpobaaGreatW.PrintWords
theorem own : ownKnob Tryz.prog.godebug = none := by kernel_rfl
theorem laidOut : laidOutB Tryz.prog = true := by kernel_rfl
instance : Inhabited S24 := ⟨z24⟩
def Q24 (x : S24) : Prop := IntOk .i64 x.f0 ∧ IntOk .i64 x.f1 ∧ IntOk .i64 x.f2 ∧ IntOk .i64 x.f3 ∧ IntOk .i64 x.f4 ∧ StrOk x.f5
theorem opens3 : Opens Tryz.prog 3 (Kd.int .i64) (IntOk .i64) := opens_int Tryz.underlying3
theorem opens9 : Opens Tryz.prog 9 Kd.string StrOk := opens_string Tryz.underlying9
theorem opens24 : Opens Tryz.prog 24 k24 Q24 :=
  opens_iso (fun x : S24 => (x.f0, x.f1, x.f2, x.f3, x.f4, x.f5)) (fun x => ⟨x.1, x.2.1, x.2.2.1, x.2.2.2.1, x.2.2.2.2.1, x.2.2.2.2.2⟩) (fun _ => rfl)
    (opens_struct Tryz.underlying24 (by kernel_rfl)
      (opensAt_cons (by kernel_rfl) opens3 (opensAt_cons (by kernel_rfl) opens3 (opensAt_cons (by kernel_rfl) opens3 (opensAt_cons (by kernel_rfl) opens3 (opensAt_cons (by kernel_rfl) opens3 (opensAt_last (by kernel_rfl) opens9)))))))
theorem opens22 : Opens Tryz.prog 22 (Kd.slice 24 k24) (RowOk 56 Q24) := opens_slice Tryz.underlying22 (by kernel_rfl) (by kernel_rfl) opens24
theorem opens25 : Opens Tryz.prog 25 (Kd.slice 3 (Kd.int .i64)) (RowOk 8 (IntOk .i64)) := opens_slice Tryz.underlying25 (by kernel_rfl) (by kernel_rfl) opens3
theorem opens27 : Opens Tryz.prog 27 (Kd.pair (Kd.slice 24 k24) (Kd.pair k24 (Kd.slice 3 (Kd.int .i64)))) (And2 (RowOk 56 Q24) (And2 Q24 (RowOk 8 (IntOk .i64)))) :=
  opens_struct Tryz.underlying27 (by kernel_rfl) (opensAt_cons (by kernel_rfl) opens22 (opensAt_cons (by kernel_rfl) opens24 (opensAt_last (by kernel_rfl) opens25)))
def InAsk (lI : List S24) (x : S24) (lN : List Int) : Prop := RowOk 56 Q24 lI ∧ Q24 x ∧ RowOk 8 (IntOk .i64) lN
def LawWalk (n : Nat) : Prop :=
  ∀ (A0 : Option Addr) (c0 : Nat) (lI : List S24) (x : S24) (A1 : Option Addr) (c1 : Nat) (lN : List Int) (w : World),
    Kd.C k24 w A0 lI.length lI → lI.length ≤ c0 → Kd.C (Kd.int .i64) w A1 lN.length lN → lN.length ≤ c1 → InAsk lI x lN →
    Calls Tryz.prog n #[.agg #[.slice A0 lI.length c0, .int .i64 x.f0, .int .i64 x.f1, .int .i64 x.f2, .int .i64 x.f3, .int .i64 x.f4, .string x.f5, .slice A1 lN.length c1]] w fun e w' => e = .returned (.bool true) ∧ Below w.heap.size w w'
theorem ask_open {H : Type} {enc : TypeId × Value → H} {W : World} {base : Nat} {v : Value} {d : DataW H} {p : List MemPlace} (hv : ∃ cs, v = .agg cs ∧ cs.size = Tryz.prog.cellsOf 27 ∧ Row.okWide Tryz.prog W .any base 27 cs)
    (h : DataW.Trod enc Tryz.prog W 0 (fun _ => true) true 27 v d p) (hw : ∀ n ∈ d.weights Tryz.prog 27, n ≤ reachBytes) :
    ∃ (A0 : Option Addr) (c0 : Nat) (lI : List S24) (x : S24) (A1 : Option Addr) (c1 : Nat) (lN : List Int),
      v = .agg #[.slice A0 lI.length c0, .int .i64 x.f0, .int .i64 x.f1, .int .i64 x.f2, .int .i64 x.f3, .int .i64 x.f4, .string x.f5, .slice A1 lN.length c1] ∧
      Kd.C k24 W A0 lI.length lI ∧ lI.length ≤ c0 ∧ Kd.C (Kd.int .i64) W A1 lN.length lN ∧ lN.length ≤ c1 ∧ InAsk lI x lN := by
  obtain ⟨cs, rfl, _, _⟩ := hv; obtain ⟨fuel, hf⟩ := h; obtain ⟨x, hx, hq⟩ := opens27 enc W fuel _ (d, p) hf hw; obtain ⟨lI, x, lN⟩ := x; obtain ⟨_, _, he, ⟨A0, c0, rfl, h0, g0⟩, ⟨_, _, rfl, hk, ⟨A1, c1, rfl, h1, g1⟩⟩⟩ := hx; have hk' := k24_open hk; subst hk'; refine ⟨A0, c0, lI, x, A1, c1, lN, ?_, g0, h0, g1, h1, hq.1, hq.2.1, hq.2.2⟩; rw [show cs = #[.slice A0 lI.length c0, .int .i64 x.f0, .int .i64 x.f1, .int .i64 x.f2, .int .i64 x.f3, .int .i64 x.f4, .string x.f5, .slice A1 lN.length c1] from ?_]; apply Array.toList_inj.1; simpa [Value.cells] using he
end Go.Proofs.YtibfkkjkahpobaaGreat.PDag
end
section
namespace Go.Proofs.YtibfkkjkahpobaaGreat.PDag.S15
open Go.ChangeShapes Go.WideShapes Go.ChangeAt Go.RowKit Go.Proofs.YtibfkkjkahpobaaGreat.PDag Go.Proofs.YtibfkkjkahpobaaGreatW.PrintWords
instance : Inhabited S132 := ⟨⟨⟨#[]⟩, z24⟩⟩
instance : Inhabited S134 := ⟨⟨⟨#[]⟩, 0⟩⟩
instance : Inhabited S136 := ⟨⟨⟨#[]⟩, false, 0, false⟩⟩
instance : Inhabited S122 := ⟨⟨[], [], [], []⟩⟩
instance : Inhabited S41 := ⟨⟨[], [], z24⟩⟩
instance : Inhabited S62 := ⟨⟨z24, z24, z24, z24⟩⟩
theorem opens4 : Opens Tryz.prog 4 Kd.bool (fun _ => True) := opens_bool Tryz.underlying4
theorem opens132 : Opens Tryz.prog 132 k132 (fun _ => True) :=
  opens_mono (fun _ _ => trivial) (opens_iso (fun x : S132 => (x.f0, x.f1)) (fun x => ⟨x.1, x.2⟩) (fun _ => rfl) (opens_struct Tryz.underlying132 (by kernel_rfl) (opensAt_cons (by kernel_rfl) opens9 (opensAt_last (by kernel_rfl) opens24))))
theorem opens134 : Opens Tryz.prog 134 k134 (fun _ => True) :=
  opens_mono (fun _ _ => trivial) (opens_iso (fun x : S134 => (x.f0, x.f1)) (fun x => ⟨x.1, x.2⟩) (fun _ => rfl) (opens_struct Tryz.underlying134 (by kernel_rfl) (opensAt_cons (by kernel_rfl) opens9 (opensAt_last (by kernel_rfl) opens3))))
theorem opens136 : Opens Tryz.prog 136 k136 (fun _ => True) :=
  opens_mono (fun _ _ => trivial) (opens_iso (fun x : S136 => (x.f0, x.f1, x.f2, x.f3)) (fun x => ⟨x.1, x.2.1, x.2.2.1, x.2.2.2⟩) (fun _ => rfl) (opens_struct Tryz.underlying136 (by kernel_rfl) (opensAt_cons (by kernel_rfl) opens9 (opensAt_cons (by kernel_rfl) opens4 (opensAt_cons (by kernel_rfl) opens3 (opensAt_last (by kernel_rfl) opens4))))))
theorem opens28 : Opens Tryz.prog 28 (Kd.slice 9 Kd.string) (RowOk 16 StrOk) := opens_slice Tryz.underlying28 (by kernel_rfl) (by kernel_rfl) opens9
theorem opens118 : Opens Tryz.prog 118 (Kd.slice 132 k132) (RowOk 72 (fun _ => True)) := opens_slice Tryz.underlying118 (by kernel_rfl) (by kernel_rfl) opens132
theorem opens119 : Opens Tryz.prog 119 (Kd.slice 134 k134) (RowOk 24 (fun _ => True)) := opens_slice Tryz.underlying119 (by kernel_rfl) (by kernel_rfl) opens134
theorem opens120 : Opens Tryz.prog 120 (Kd.slice 136 k136) (RowOk 40 (fun _ => True)) := opens_slice Tryz.underlying120 (by kernel_rfl) (by kernel_rfl) opens136
def Q140 (x : S122) : Prop := RowOk 72 (fun _ => True) x.f0 ∧ RowOk 24 (fun _ => True) x.f1 ∧ RowOk 40 (fun _ => True) x.f2 ∧ RowOk 16 StrOk x.f3
theorem opens122 : Opens Tryz.prog 122 k122 Q140 :=
  opens_iso (fun x : S122 => (x.f0, x.f1, x.f2, x.f3)) (fun x => ⟨x.1, x.2.1, x.2.2.1, x.2.2.2⟩) (fun _ => rfl) (opens_struct Tryz.underlying122 (by kernel_rfl) (opensAt_cons (by kernel_rfl) opens118 (opensAt_cons (by kernel_rfl) opens119 (opensAt_cons (by kernel_rfl) opens120 (opensAt_last (by kernel_rfl) opens28)))))
def Q73 (x : S41) : Prop := RowOk 16 StrOk x.f0 ∧ RowOk 56 Q24 x.f1 ∧ Q24 x.f2
theorem opens41 : Opens Tryz.prog 41 k41 Q73 :=
  opens_iso (fun x : S41 => (x.f0, x.f1, x.f2)) (fun x => ⟨x.1, x.2.1, x.2.2⟩) (fun _ => rfl) (opens_struct Tryz.underlying41 (by kernel_rfl) (opensAt_cons (by kernel_rfl) opens28 (opensAt_cons (by kernel_rfl) opens22 (opensAt_last (by kernel_rfl) opens24))))
theorem opens62 : Opens Tryz.prog 62 k62 (fun _ => True) :=
  opens_mono (fun _ _ => trivial) (opens_iso (fun x : S62 => (x.f0, x.f1, x.f2, x.f3)) (fun x => ⟨x.1, x.2.1, x.2.2.1, x.2.2.2⟩) (fun _ => rfl) (opens_array Tryz.underlying62 (by kernel_rfl) (by
    rw [show (List.range 4).map (fun i => (24, i * Tryz.prog.cellsOf 24)) = [(24, 0), (24, 0 + k24.sz), (24, 0 + k24.sz + k24.sz), (24, 0 + k24.sz + k24.sz + k24.sz)] by kernel_rfl]
    exact opensAt_cons (by kernel_rfl) opens24 (opensAt_cons (by kernel_rfl) opens24 (opensAt_cons (by kernel_rfl) opens24 (opensAt_last (by kernel_rfl) opens24))))))
theorem opens29 : Opens Tryz.prog 29 (Kd.slice 122 k122) (RowOk 96 Q140) := opens_slice Tryz.underlying29 (by kernel_rfl) (by kernel_rfl) opens122
theorem opens32 : Opens Tryz.prog 32 (Kd.slice 41 k41) (RowOk 104 Q73) := opens_slice Tryz.underlying32 (by kernel_rfl) (by kernel_rfl) opens41
theorem opens35 : Opens Tryz.prog 35 (Kd.slice 62 k62) (RowOk 224 (fun _ => True)) := opens_slice Tryz.underlying35 (by kernel_rfl) (by kernel_rfl) opens62
theorem opens31 : Opens Tryz.prog 31 (Kd.pair (Kd.slice 9 Kd.string) (Kd.slice 122 k122)) (And2 (RowOk 16 StrOk) (RowOk 96 Q140)) :=
  opens_struct Tryz.underlying31 (by kernel_rfl) (opensAt_cons (by kernel_rfl) opens28 (opensAt_last (by kernel_rfl) opens29))
theorem opens34 : Opens Tryz.prog 34 (Kd.pair (Kd.pair (Kd.slice 9 Kd.string) (Kd.slice 122 k122)) (Kd.slice 41 k41)) (And2 (And2 (RowOk 16 StrOk) (RowOk 96 Q140)) (RowOk 104 Q73)) :=
  opens_struct Tryz.underlying34 (by kernel_rfl) (opensAt_cons (by kernel_rfl) opens31 (opensAt_last (by kernel_rfl) opens32))
theorem opens37 : Opens Tryz.prog 37 (Kd.pair (Kd.pair (Kd.slice 24 k24) (Kd.pair k24 (Kd.slice 3 (Kd.int .i64)))) (Kd.pair (Kd.pair (Kd.pair (Kd.slice 9 Kd.string) (Kd.slice 122 k122)) (Kd.slice 41 k41)) (Kd.slice 62 k62)))
    (And2 (And2 (RowOk 56 Q24) (And2 Q24 (RowOk 8 (IntOk .i64)))) (And2 (And2 (And2 (RowOk 16 StrOk) (RowOk 96 Q140)) (RowOk 104 Q73)) (RowOk 224 (fun _ => True)))) :=
  opens_struct Tryz.underlying37 (by kernel_rfl) (opensAt_cons (by kernel_rfl) opens27 (opensAt_cons (by kernel_rfl) opens34 (opensAt_last (by kernel_rfl) opens35)))
structure In15 (lI : List S24) (x : S24) (lN : List Int) (lS : List ByteArray) (lU : List S122) (lB : List S41) (lC : List S62) : Prop where
  i : RowOk 56 Q24 lI
  x : Q24 x
  n : RowOk 8 (IntOk .i64) lN
  s : RowOk 16 StrOk lS
  u : RowOk 96 Q140 lU
  b : RowOk 104 Q73 lB
  c : RowOk 224 (fun _ => True) lC
def LawWalk (n : Nat) : Prop :=
  ∀ (A0 : Option Addr) (c0 : Nat) (lI : List S24) (x : S24) (A1 : Option Addr) (c1 : Nat) (lN : List Int) (A2 : Option Addr) (c2 : Nat) (lS : List ByteArray) (A3 : Option Addr) (c3 : Nat) (lU : List S122) (A4 : Option Addr) (c4 : Nat) (lB : List S41) (A5 : Option Addr) (c5 : Nat) (lC : List S62) (w : World),
    Kd.C k24 w A0 lI.length lI → lI.length ≤ c0 → Kd.C (Kd.int .i64) w A1 lN.length lN → lN.length ≤ c1 → Kd.C Kd.string w A2 lS.length lS → lS.length ≤ c2 → Kd.C k122 w A3 lU.length lU → lU.length ≤ c3 → Kd.C k41 w A4 lB.length lB → lB.length ≤ c4 → Kd.C k62 w A5 lC.length lC → lC.length ≤ c5 → In15 lI x lN lS lU lB lC →
    Calls Tryz.prog n #[.agg #[.slice A0 lI.length c0, .int .i64 x.f0, .int .i64 x.f1, .int .i64 x.f2, .int .i64 x.f3, .int .i64 x.f4, .string x.f5, .slice A1 lN.length c1, .slice A2 lS.length c2, .slice A3 lU.length c3, .slice A4 lB.length c4, .slice A5 lC.length c5]] w fun e w' => e = .returned (.bool true) ∧ Below w.heap.size w w'
theorem ask_open {H : Type} {enc : TypeId × Value → H} {W : World} {base : Nat} {v : Value} {d : DataW H} {p : List MemPlace} (hv : ∃ cs, v = .agg cs ∧ cs.size = Tryz.prog.cellsOf 37 ∧ Row.okWide Tryz.prog W .any base 37 cs)
    (h : DataW.Trod enc Tryz.prog W 0 (fun _ => true) true 37 v d p) (hw : ∀ n ∈ d.weights Tryz.prog 37, n ≤ reachBytes) :
    ∃ (A0 : Option Addr) (c0 : Nat) (lI : List S24) (x : S24) (A1 : Option Addr) (c1 : Nat) (lN : List Int) (A2 : Option Addr) (c2 : Nat) (lS : List ByteArray) (A3 : Option Addr) (c3 : Nat) (lU : List S122) (A4 : Option Addr) (c4 : Nat) (lB : List S41) (A5 : Option Addr) (c5 : Nat) (lC : List S62),
      v = .agg #[.slice A0 lI.length c0, .int .i64 x.f0, .int .i64 x.f1, .int .i64 x.f2, .int .i64 x.f3, .int .i64 x.f4, .string x.f5, .slice A1 lN.length c1, .slice A2 lS.length c2, .slice A3 lU.length c3, .slice A4 lB.length c4, .slice A5 lC.length c5] ∧
      Kd.C k24 W A0 lI.length lI ∧ lI.length ≤ c0 ∧ Kd.C (Kd.int .i64) W A1 lN.length lN ∧ lN.length ≤ c1 ∧ Kd.C Kd.string W A2 lS.length lS ∧ lS.length ≤ c2 ∧ Kd.C k122 W A3 lU.length lU ∧ lU.length ≤ c3 ∧ Kd.C k41 W A4 lB.length lB ∧ lB.length ≤ c4 ∧ Kd.C k62 W A5 lC.length lC ∧ lC.length ≤ c5 ∧ In15 lI x lN lS lU lB lC := by
  obtain ⟨cs, rfl, _, _⟩ := hv; obtain ⟨fuel, hf⟩ := h; obtain ⟨x, hx, hq⟩ := opens37 enc W fuel _ (d, p) hf hw; obtain ⟨⟨lI, x, lN⟩, ⟨⟨lS, lU⟩, lB⟩, lC⟩ := x; obtain ⟨_, _, he, ⟨_, _, rfl, ⟨A0, c0, rfl, h0, g0⟩, ⟨_, _, rfl, hk, ⟨A1, c1, rfl, h1, g1⟩⟩⟩, ⟨_, _, rfl, ⟨_, _, rfl, ⟨_, _, rfl, ⟨A2, c2, rfl, h2, g2⟩, ⟨A3, c3, rfl, h3, g3⟩⟩, ⟨A4, c4, rfl, h4, g4⟩⟩, ⟨A5, c5, rfl, h5, g5⟩⟩⟩ := hx; have hk' := k24_open hk; subst hk'; refine ⟨A0, c0, lI, x, A1, c1, lN, A2, c2, lS, A3, c3, lU, A4, c4, lB, A5, c5, lC, ?_, g0, h0, g1, h1, g2, h2, g3, h3, g4, h4, g5, h5, ⟨hq.1.1, hq.1.2.1, hq.1.2.2, hq.2.1.1.1, hq.2.1.1.2, hq.2.1.2, hq.2.2⟩⟩; rw [show cs = #[.slice A0 lI.length c0, .int .i64 x.f0, .int .i64 x.f1, .int .i64 x.f2, .int .i64 x.f3, .int .i64 x.f4, .string x.f5, .slice A1 lN.length c1, .slice A2 lS.length c2, .slice A3 lU.length c3, .slice A4 lB.length c4, .slice A5 lC.length c5] from ?_]; apply Array.toList_inj.1; simpa [Value.cells] using he
end Go.Proofs.YtibfkkjkahpobaaGreat.PDag.S15
end
section
namespace Go.Proofs.YtibfkkjkahpobaaGreat.PDag
open Go.RowKit Go.Shelf Go.Proofs.YtibfkkjkahpobaaGreatW.PrintWords Go.Proofs.YtibfkkjkahpobaaGreatW.PrintLast
attribute [local go_sem] Oper.semAt_some
def comes (es : List S100) (j : Nat) : S100 := J100 es ((es.length : Int) - 1 - j)
def upto (n k : Nat) : List (Fin n) := (List.finRange n).take k
theorem upto_succ (n k : Nat) (h : k < n) : upto n (k + 1) = upto n k ++ [⟨k, h⟩] := by
  unfold upto; rw [List.take_succ_eq_append_getElem (by simpa using h)]; simp
theorem upto_length (n k : Nat) (h : k ≤ n) : (upto n k).length = k := by simp [upto, h]
theorem upto_all (es : List S100) : (upto es.length es.length).map (fun j : Fin es.length => comes es j.1) = es.reverse := by
  apply List.ext_getElem
  · simp [upto]
  · intro i h1 h2; have h3 : i < es.length := by simpa using h2
    simp only [upto, List.getElem_map, List.getElem_take, List.getElem_finRange, comes, J100, List.getElem_reverse]; simp only [Fin.val_cast]; rw [show ((es.length : Int) - 1 - i).toNat = es.length - 1 - i by omega, List.getD_eq_getElem?_getD, List.getElem?_eq_getElem (by omega)]; rfl
def KpB (n₀ Bs : Nat) (W W' : World) : Prop := Below n₀ W W' ∧ W'.heap[Bs]? = W.heap[Bs]?
theorem KpB.t {n₀ Bs : Nat} {A B C : World} (h : KpB n₀ Bs A B) (k : KpB n₀ Bs B C) : KpB n₀ Bs A C := ⟨h.1.trans k.1, k.2.trans h.2⟩
theorem KpB.b {n₀ Bs : Nat} {w : World} (hn : n₀ ≤ w.heap.size) (hb : Bs < w.heap.size) (W : World) (l : Nat) (o o' : Obj) (hl : w.heap.size ≤ l) (h : W.heap[l]? = some o) (h1 : o.isCells = false) (h2 : o.isWalk = false) : KpB n₀ Bs W (W.putObj l o') :=
  ⟨belowK_b hn W l o o' hl h h1 h2, World.putObj_heap_other (by omega)⟩
theorem back1_in (F : Fence) (n : Nat) (h116 : F.fn 106) (hro : F.round = none) (hn : 1 ≤ n) (l Bs : Nat) (A : Option Addr) (c : Nat) (es : List S100) (w0 : World) (hC : Kd.C k100 w0 A es.length es) (J Jx : List (Fin es.length) → World → Prop)
    (hY : ∀ pre (x : Fin es.length) W, J pre W → pre.length < es.length → YieldAt F (n - 1) Tryz.prog l #[.int .i64 ((es.length : Int) - 1 - (x.1 : Int)), .agg #[.int .i64 (comes es x.1).f0, .int .i64 (comes es x.1).f1, .int .i64 (comes es x.1).f2]] W fun e W' =>
      (e = .returned (.bool true) ∧ J (pre ++ [x]) W' ∧ KpB w0.heap.size Bs W W') ∨ (e = .returned (.bool false) ∧ Jx (pre ++ [x]) W'))
    (W : World) (hW : Below w0.heap.size w0 W) (hBs : W.heap[Bs]? = some (.cells #[.slice A es.length c] 88 (0, 0))) (h0 : J [] W) :
    CallsIn F n Tryz.prog 106 #[.func (.yield l) #[] #[], .pointer (some ⟨Bs, 0, none⟩)] W fun e W' => (∃ v, e = .returned v) ∧
      ((∃ ys, ys = upto es.length es.length ∧ J ys W') ∨ (∃ pre, (∃ k, k ≤ es.length ∧ pre = upto es.length k) ∧ Jx pre W')) := by
  have hu100 := Tryz.underlying100; have hmax := Kd.C_max hC; refine callsIn_of_wp Tryz.func106 rfl h116 ?_ hro; simp only [Tryz.ntmps106, List.size_toArray, List.length_cons, List.length_nil, Nat.reduceAdd, Nat.reduceSub, Array.replicate_succ, Array.replicate_zero, List.push_toArray, List.append_toArray, List.nil_append, List.cons_append]; have hcb : W.cell? ⟨Bs, 0, none⟩ = some (.slice A es.length c) := (bC_ hBs 0).trans rfl; have hw1 : wrap64 ((es.length : Int) - 1) = (es.length : Int) - 1 := by unfold wrap64; omega
  gi_wp2
  gi_loopw [3] (fun i wr => ∃ k : Nat, k ≤ es.length ∧ i = .int .i64 ((es.length : Int) - 1 - k) ∧ J (upto es.length k) wr ∧ KpB w0.heap.size Bs W wr)
    (fun i _ => (intOf i + 1).toNat)
  case atStart => exact ⟨0, Nat.zero_le _, by simp, h0, Below.refl _ _, rfl⟩
  case round =>
    obtain ⟨k, hk, rfl, hJs, hnx⟩ := hrel; have hbk := hnx.2.trans hBs; have hcb' : wr.cell? ⟨Bs, 0, none⟩ = some (.slice A es.length c) := (bC_ hbk 0).trans rfl
    by_cases hlt : k < es.length
    · obtain ⟨fn, tmps, assign, body, hy, hR⟩ := hY _ ⟨k, hlt⟩ wr hJs (by rw [upto_length _ _ hk]; exact hlt); have p0 : (0 : Int) ≤ (es.length : Int) - 1 - k := by omega
      have q0 : (es.length : Int) - 1 - k < (es.length : Int) := by omega
      obtain ⟨ad, e1, hx0, hx1, hx2⟩ := at_T100 hC _ p0 q0; subst e1; replace hx0 := ((hW.trans hnx.1).cell (World.block_lt_of_cell? w0 _ hx0)).trans hx0; replace hx1 := ((hW.trans hnx.1).cell (World.block_lt_of_cell? w0 _ hx1)).trans hx1; replace hx2 := ((hW.trans hnx.1).cell (World.block_lt_of_cell? w0 _ hx2)).trans hx2; dsimp only [comes] at hy; rw [show ((es.length : Int) - 1 - k).toNat = es.length - 1 - k by omega] at hx0 hx1 hx2; have hw2 : wrap64 ((es.length : Int) - 1 - k - 1) = (es.length : Int) - 1 - k - 1 := by unfold wrap64; omega
      replace p0 := eq_true p0; replace q0 := eq_true q0
      gi_wp2
      refine hR.mono ?_; rintro e W3 (⟨rfl, hJ3, hk3⟩ | ⟨rfl, hJx3⟩)
      · gi_wp2
        go_roundw
        case rel => exact ⟨k + 1, by omega, by (try rw [hw2]); congr 1; push_cast; omega, by rw [upto_succ _ _ hlt]; exact hJ3, hnx.t hk3⟩
        case measure => simp [intOf]; omega
      · gi_wp2
        refine bodyPost_ret (results_none rfl _ _ _) rfl ?_; exact ⟨⟨_, rfl⟩, .inr ⟨_, ⟨k + 1, by omega, (upto_succ _ _ hlt).symm⟩, hJx3⟩⟩
    · obtain rfl : k = es.length := by omega
      have hng : ¬ (0 : Int) ≤ (es.length : Int) - 1 - es.length := by omega
      gi_wp2
      go_end0
      first | exact ⟨⟨_, rfl⟩, .inl ⟨_, rfl, hJs⟩⟩ | exact ⟨⟨_, rfl⟩, .inl hJs⟩
theorem back_in (F : Fence) (n : Nat) (h93 : F.fn 99) (hro : F.round = none) (a : Option Addr) (len cap : Nat) (w : World) :
    CallsIn F n Tryz.prog 99 #[.slice a len cap] w fun e w' => e = .returned (.func (.func 106) #[] #[.pointer (some ⟨w.heap.size, 0, none⟩)]) ∧ w' = w.alloc (.cells #[.slice a len cap] 88) := by
  refine callsIn_of_wp Tryz.func99 rfl h93 ?_ hro; simp only [Tryz.ntmps99, List.size_toArray, List.length_cons, List.length_nil, Nat.reduceAdd, Nat.reduceSub, Array.replicate_succ, Array.replicate_zero, List.push_toArray, List.append_toArray, List.nil_append, List.cons_append]
  gi_wp2
  go_ret; exact ⟨rfl, rfl⟩
theorem back_stops (F : Fence) (n : Nat) (h116 : F.fn 106) (hro : F.round = none) (hn : 1 ≤ n) (Bs : Nat) (A : Option Addr) (c : Nat) (es : List S100) (w0 w : World) (hC : Kd.C k100 w0 A es.length es) (hw : Below w0.heap.size w0 w) (hBs : w.heap[Bs]? = some (.cells #[.slice A es.length c] 88 (0, 0))) :
    SeqStopsK F n Tryz.prog 106 #[.pointer (some ⟨Bs, 0, none⟩)] (fun x : Fin es.length => (#[.int .i64 ((es.length : Int) - 1 - (x.1 : Int)), .agg #[.int .i64 (comes es x.1).f0, .int .i64 (comes es x.1).f1, .int .i64 (comes es x.1).f2]] : Array Value)) (KpB w0.heap.size Bs) (fun ys => ys = upto es.length es.length)
      (fun pre => ∃ k, k ≤ es.length ∧ pre = upto es.length k) es.length w := fun l J Jx W hW _ _ hY h0 =>
  back1_in F n h116 hro hn l Bs A c es w0 hC J Jx hY W (hw.trans (hW.mono hw.size)) ((hW.block Bs (blk_lt hBs)).trans hBs) h0
section
variable {P : Program} {ops : Array Oper} {Q : Exit → Act → World → Prop} {md : Region.Mode} {S : World → Prop} {ds : List Nat}
def noDefer (ops : Array Oper) : Bool := ops.toList.all fun o => match o.op with | .defer _ => false | .call c => (match c.callee with | .builtin _ => true | _ => false) | _ => true
theorem noDefer_at (h : noDefer ops = true) {i : Nat} {o : Oper} (hi : ops[i]? = some o) : ∀ c, o.op ≠ .defer c := fun c e => by
  have hm : o ∈ ops.toList := by
    rw [← Array.getElem?_toList] at hi; exact List.mem_of_getElem? hi
  have := List.all_eq_true.1 h o hm; rw [e] at this; simp at this
theorem opIn_of_op {l n : Nat} (hnd : noDefer ops = true) (hL : ¬ LetsOut Q) {i : Nat} {K K' : Act → World → Prop} {a : Act} {w : World}
    (hk : ∀ a w, K a w → K' a w) (h : wpOp P ops Q i K a w) : wpOpIn (Fence.wide.inRound l) n P ops Q i K' a w := by
  unfold wpOp at h; unfold wpOpIn
  cases e : ops[i]? with
  | none => simp only [e] at h; exact hk _ _ h
  | some o =>
    simp only [e] at h; show if Region.wanted o (yielded ops a.tmps) = true then Oper.wpIn (Fence.wide.inRound l) n P o a w K' Q else _
    by_cases hw : Region.wanted o (yielded ops a.tmps) = true
    · rw [if_pos hw] at h ⊢; rcases h with h | h
      · refine ⟨fun _ _ => trivial, ?_⟩; have e2 : o.semAt (Fence.wide.inRound l).round a.eval = execOp a.eval o := Oper.semAt_some l a.eval o (noDefer_at hnd e); rw [e2]; unfold Oper.wp at h; generalize (execOp a.eval o).run P w = r at h ⊢
        cases r with
        | ok x w' =>
          cases x <;> simp only [Oper.upon] at h
          case value v => exact hk _ _ h
          case skip => exact hk _ _ h
          case defer d => exact hk _ _ h
          case enter f args =>
            refine ⟨fun h => (by cases h), ?_⟩; refine CallsIn.inRound l (CallsIn.mono (callsIn_wide.2 h) ?_); intro e w'' he
            cases e with
            | returned u => exact hk _ _ he
            | panicked c => exact he
            | outgrown => exact he
          case row row args =>
            refine ⟨fun h => (by cases h), ?_⟩; intro c cs _; obtain ⟨v, w2, r, s⟩ := h c cs
            exact ⟨v, w2, hk _ _ r, stepsIn_wide.2 s⟩
        | halt x w' =>
          cases x <;> simp only [Oper.upon] at h
          case panic u => exact h
      · exact absurd h.2 hL
    · rw [if_neg hw] at h ⊢; exact ⟨fun _ _ => trivial, hk _ _ h⟩
theorem anyIn_of_any {l n : Nat} (hnd : noDefer ops = true) (hL : ¬ LetsOut Q) : ∀ (fuel : Nat) (listed : Array Bool) (a : Act) (w : World), wpAny P md ops Q fuel listed a w → wpAnyIn (Fence.wide.inRound l) n P md ops Q fuel listed a w
  | 0, _, _, _, h => h
  | fuel + 1, listed, a, w, h => ⟨h.1, fun i hi => opIn_of_op hnd hL (fun a w h => anyIn_of_any hnd hL fuel _ a w h) (h.2 i hi)⟩
def OnlyNormal (Q : Exit → Act → World → Prop) : Exit → Act → World → Prop := fun e a w => match e with | .normal => Q .normal a w | _ => False
theorem wp_normal_only {c : Code} {a : Act} {w : World} (h : c.wp P (OnlyNormal Q) a w) : c.wp P Q a w :=
  Code.wp_mono (fun e a w hq => by cases e <;> first | exact hq | exact hq.elim) h
theorem startIn_ {id k n l : Nat} {a : Act} {w : World} (L : Array Bool) (hm : P.follows .mixedOrders = true) (hnd : noDefer ops = true) (hn : ops.size = n) (hl : Array.replicate n false = L) (hS : S w.drew)
    (h : S w.drew → wpAnyLast P .any ops (OnlyNormal Q) S ds n L a w.drew) : (Code.region id ops true).wpIn (Fence.wide.inRound l) k P Q a w := by
  subst hn; subst hl; refine Code.wpIn_mono (Q := OnlyNormal Q) (fun e a w hq => by cases e <;> first | exact hq | exact hq.elim) ?_; exact wpIn_region_any hm (anyIn_of_any hnd (fun ⟨a, w, h⟩ => h) _ _ _ _ (wpAny_of_last _ _ _ _ (h hS)))
end
end Go.Proofs.YtibfkkjkahpobaaGreat.PDag
end
