-- the texts that this claim needs, out of this session's and its print's (wip/shrink.py)
import Derived.Test.YtfnchdlgkkdegaaWWordsT
import Derived.WalkKit
import Derived.ProofKit
import Derived.SizedLaws
import Derived.OpenShut
import Derived.Deep.Slices
namespace Go.Proofs.YtfnchdlgkkdegaaW.PrintWords
open Go.RowKit Go.Deep
set_option linter.unusedVariables false
def Opens {α : Type} (P : Program) (t : TypeId) (d : Kd α) (Q : α → Prop) : Prop :=
  ∀ {H : Type} (enc : TypeId × Value → H) (w : World) (fuel : Nat) (cs : List Value) (y : DataW H × List MemPlace),
    DataW.trod enc P w 0 (fun _ => true) true fuel t cs = some y → (∀ n ∈ y.1.weights P t, n ≤ reachBytes) → ∃ x, d.K w x cs ∧ Q x
def IntOk (k : IntKind) (x : Int) : Prop := (Lit.int k x).wf = true
def StrOk (s : ByteArray) : Prop := s.size ≤ 140737488351232
def RowOk {α : Type} (B : Nat) (Q : α → Prop) (xs : List α) : Prop := xs.length * B ≤ 140737488351232 ∧ ∀ x ∈ xs, Q x
def And2 {α β : Type} (Q : α → Prop) (Q' : β → Prop) (x : α × β) : Prop := Q x.1 ∧ Q' x.2
theorem opens_int {P : Program} {t : TypeId} {k : IntKind} (hu : P.underlying t = some (.int k)) : Opens P t (Kd.int k) (IntOk k) := by
  intro H enc w fuel cs y h _
  obtain ⟨n, rfl, rfl, hn⟩ := DataW.trod_int hu h
  exact ⟨n, rfl, hn⟩
theorem opens_string {P : Program} {t : TypeId} (hu : P.underlying t = some .string) : Opens P t Kd.string StrOk := by
  intro H enc w fuel cs y h hw
  obtain ⟨n, rfl, rfl, hn⟩ := DataW.trod_string hu h
  exact ⟨n, rfl, by simpa [DataW.weights, reachBytes, StrOk] using hw⟩
theorem weightsAll_mem' {H : Type} {P : Program} {e : TypeId} : ∀ {l : List (DataW H)} {d : DataW H}, d ∈ l → ∀ n ∈ d.weights P e, n ∈ DataW.weightsAll P e l
  | d0 :: l, d, hd, n, hn => by
    simp only [DataW.weightsAll, List.mem_append]
    rcases List.mem_cons.1 hd with rfl | hd
    · exact .inl hn
    · exact .inr (weightsAll_mem' hd n hn)
theorem add_add' (a : Addr) (x y : Nat) : (a.add x).add y = a.add (x + y) := by
  unfold Addr.add
  by_cases hx : x = 0
  · subst hx; simp
  · by_cases hy : y = 0
    · subst hy; simp
    · rw [if_neg hx, if_neg hy, if_neg (by omega)]; simp [Nat.add_assoc]
theorem opens_slice {α : Type} [Inhabited α] {P : Program} {t e : TypeId} {d : Kd α} {Q : α → Prop} (hu : P.underlying t = some (.slice e)) (hc : P.cellsOf e = d.sz) {B : Nat} (hB : P.bytesOf e = B) (he : Opens P e d Q) :
    Opens P t (Kd.slice e d) (RowOk B Q) := by
  subst hB
  intro H enc w fuel cs y h hw
  rcases open_slice hu h with ⟨rfl, rfl⟩ | ⟨a, len, cap, m, n, D, Pl, rfl, hb, hl, hm, hmm, rfl, hx⟩
  · exact ⟨[], ⟨none, 0, rfl, Nat.le_refl _, by simp [Kd.C, ReadsRow]⟩, by simp [RowOk]⟩
  · simp only [DataW.weights, hu] at hw
    have hmm' : m = cap := by simpa using hmm
    obtain ⟨X, hX⟩ := choose_lt (n := len) (p := fun i x => (∃ c, c.length = d.sz ∧ d.K w x c ∧ ∀ j u, c[j]? = some u → w.cell? (a.add (i * d.sz + j)) = some u) ∧ Q x) (fun i hi => by
      obtain ⟨cs', h1, h2⟩ := hx i (by omega)
      obtain ⟨_, h4, h5⟩ := World.cells?_some h1
      obtain ⟨x, hk, hq⟩ := he enc w n cs' _ h2 (fun k hk => hw k (by
        refine List.mem_cons_of_mem _ (List.mem_append_left _ (weightsAll_mem' ?_ k hk))
        exact List.mem_map.2 ⟨i, List.mem_range.2 hi, rfl⟩))
      refine ⟨x, ⟨cs', by rw [h4, hc], hk, fun j u hj => ?_⟩, hq⟩
      have hj' : j < P.cellsOf e := by rw [← h4]; exact (List.getElem?_eq_some_iff.1 hj).1
      rw [← hc, ← add_add', h5 j hj', hj])
    refine ⟨(List.range len).map X, ⟨some a, cap, ?_, ?_, ?_⟩, ?_, ?_⟩
    · simp
    · simpa using hl
    · refine ⟨rfl, ?_, fun _ => ⟨a, rfl, fun j p hj => ?_⟩⟩
      · simp only [List.length_map, List.length_range]; have := hm; unfold maxLen at this; omega
      · obtain ⟨hj1, rfl⟩ := List.getElem?_eq_some_iff.1 hj
        have hj2 : j < len := by simpa using hj1
        obtain ⟨⟨c, h1, h2, h3⟩, _⟩ := hX j hj2
        refine ⟨c, h1, ?_, h3⟩
        simpa using h2
    · have h1 := hw _ List.mem_cons_self
      simp only [List.length_map, List.length_range] at h1 ⊢
      refine Nat.le_trans (Nat.mul_le_mul_right _ ?_) h1
      omega
    · intro x hx'
      obtain ⟨i, hi, rfl⟩ := List.mem_map.1 hx'
      exact (hX i (List.mem_range.1 hi)).2
theorem field_trod {H : Type} {enc : TypeId × Value → H} {P : Program} {w : World} {t : TypeId} {fs : Array Field} {fuel : Nat} {cs : List Value} {y : DataW H × List MemPlace} (hu : P.underlying t = some (.struct fs))
    (h : DataW.trod enc P w 0 (fun _ => true) true fuel t cs = some y) (hw : ∀ n ∈ y.1.weights P t, n ≤ reachBytes) :
    cs.length = P.cellsOf t ∧ ∃ n, ∀ (i : Nat) (f : Field), fs[i]? = some f → ∃ z, DataW.trod enc P w 0 (fun _ => true) true n f.type ((cs.drop f.offset).take (P.cellsOf f.type)) = some z ∧ ∀ k ∈ z.1.weights P f.type, k ≤ reachBytes := by
  obtain ⟨xs, n, rfl, rfl, hl, hx, hf⟩ := DataW.trod_struct hu h
  refine ⟨hl, n, fun i f hi => ?_⟩
  have hlt : i < xs.length := by rw [hx]; exact (Array.getElem?_eq_some_iff.1 hi).1
  refine ⟨xs[i], by rw [hf i f hi, List.getElem?_eq_getElem hlt], fun k hk => hw k ?_⟩
  simp only [DataW.weights, hu]
  refine DataW.weights_mem_each (j := i) (t := f.type) (d := xs[i].1) ?_ ?_ k hk
  · simp [hi]
  · simp [List.getElem?_eq_getElem hlt]
theorem elem_trod {H : Type} {enc : TypeId × Value → H} {P : Program} {w : World} {t e : TypeId} {m : Nat} {fuel : Nat} {cs : List Value} {y : DataW H × List MemPlace} (hu : P.underlying t = some (.array m e))
    (h : DataW.trod enc P w 0 (fun _ => true) true fuel t cs = some y) (hw : ∀ n ∈ y.1.weights P t, n ≤ reachBytes) :
    cs.length = P.cellsOf t ∧ ∃ n, ∀ i, i < m → ∃ z, DataW.trod enc P w 0 (fun _ => true) true n e ((cs.drop (i * P.cellsOf e)).take (P.cellsOf e)) = some z ∧ ∀ k ∈ z.1.weights P e, k ≤ reachBytes := by
  obtain ⟨xs, n, rfl, rfl, hl, hx, hf⟩ := DataW.trod_array hu h
  refine ⟨hl, n, fun i hi => ?_⟩
  have hlt : i < xs.length := by omega
  refine ⟨xs[i], by rw [hf i hi, List.getElem?_eq_getElem hlt], fun k hk => hw k ?_⟩
  simp only [DataW.weights, hu]
  exact weightsAll_mem' (List.mem_map.2 ⟨xs[i], List.getElem_mem hlt, rfl⟩) k hk
def OpensAt {α : Type} (P : Program) (fs : List (TypeId × Nat)) (off : Nat) (d : Kd α) (Q : α → Prop) : Prop :=
  ∀ {H : Type} (enc : TypeId × Value → H) (w : World) (n : Nat) (cs : List Value),
    (∀ f ∈ fs, ∃ z, DataW.trod enc P w 0 (fun _ => true) true n f.1 ((cs.drop f.2).take (P.cellsOf f.1)) = some z ∧ ∀ k ∈ z.1.weights P f.1, k ≤ reachBytes) → cs.length = off + d.sz → ∃ x, d.K w x (cs.drop off) ∧ Q x
theorem opensAt_last {α : Type} {P : Program} {t off : Nat} {d : Kd α} {Q : α → Prop} (hc : P.cellsOf t = d.sz) (ho : Opens P t d Q) : OpensAt P [(t, off)] off d Q := by
  intro H enc w n cs h hl
  obtain ⟨z, h1, h2⟩ := h _ List.mem_cons_self
  obtain ⟨x, hx, hq⟩ := ho enc w n _ z h1 h2
  refine ⟨x, ?_, hq⟩
  simp only [hc] at hx
  rwa [List.take_of_length_le (by rw [List.length_drop]; omega)] at hx
theorem opensAt_cons {α β : Type} {P : Program} {t off : Nat} {fs : List (TypeId × Nat)} {d : Kd α} {d' : Kd β} {Q : α → Prop} {Q' : β → Prop} (hc : P.cellsOf t = d.sz) (ho : Opens P t d Q) (hr : OpensAt P fs (off + d.sz) d' Q') :
    OpensAt P ((t, off) :: fs) off (Kd.pair d d') (And2 Q Q') := by
  intro H enc w n cs h hl
  obtain ⟨z, h1, h2⟩ := h _ List.mem_cons_self
  obtain ⟨x, hx, hq⟩ := ho enc w n _ z h1 h2
  obtain ⟨x', hx', hq'⟩ := hr enc w n cs (fun f hf => h f (List.mem_cons_of_mem _ hf)) (by simp only [Kd.pair] at hl; omega)
  refine ⟨(x, x'), ⟨_, _, ?_, hx, hx'⟩, hq, hq'⟩
  simp only [hc]
  rw [← List.drop_drop, List.take_append_drop]
theorem opens_struct {α : Type} {P : Program} {t : Nat} {fs : Array Field} {d : Kd α} {Q : α → Prop} (hu : P.underlying t = some (.struct fs)) (hc : P.cellsOf t = d.sz) (h : OpensAt P (fs.toList.map fun f => (f.type, f.offset)) 0 d Q) : Opens P t d Q := by
  intro H enc w fuel cs y hy hw
  obtain ⟨hl, n, hf⟩ := field_trod hu hy hw
  have := h enc w n cs (fun f hf' => by
    obtain ⟨g, hg, rfl⟩ := List.mem_map.1 hf'
    obtain ⟨i, hi⟩ := List.getElem?_of_mem hg
    exact hf i g (by simpa using hi)) (by rw [hl, hc]; omega)
  simpa using this
theorem opens_array {α : Type} {P : Program} {t m e : Nat} {d : Kd α} {Q : α → Prop} (hu : P.underlying t = some (.array m e)) (hc : P.cellsOf t = d.sz) (h : OpensAt P ((List.range m).map fun i => (e, i * P.cellsOf e)) 0 d Q) : Opens P t d Q := by
  intro H enc w fuel cs y hy hw
  obtain ⟨hl, n, hf⟩ := elem_trod hu hy hw
  have := h enc w n cs (fun f hf' => by
    obtain ⟨i, hi, rfl⟩ := List.mem_map.1 hf'
    exact hf i (List.mem_range.1 hi)) (by rw [hl, hc]; omega)
  simpa using this
theorem opens_iso {α β : Type} {P : Program} {t : Nat} {d : Kd α} {Q : α → Prop} (f : β → α) (g : α → β) (hfg : ∀ x, f (g x) = x) (h : Opens P t d Q) : Opens P t (Kd.iso d f) (fun x => Q (f x)) := by
  intro H enc w fuel cs y hy hw
  obtain ⟨x, hx, hq⟩ := h enc w fuel cs y hy hw
  exact ⟨g x, by show d.K w (f (g x)) cs; rwa [hfg], by show Q (f (g x)); rwa [hfg]⟩
end Go.Proofs.YtfnchdlgkkdegaaW.PrintWords
