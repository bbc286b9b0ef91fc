import Derived.Test.YtibfkkjkahpobaaHd31
import Derived.Test.YtibfkkjkahpobaaHd32
import Derived.Test.YtibfkkjkahpobaaHd30
import Derived.Test.YtibfkkjkahpobaaHd25
set_option linter.unusedVariables false
set_option linter.unusedSimpArgs false
set_option maxHeartbeats 8000000
set_option maxRecDepth 100000
section
-- the texts that this claim needs, out of this session's and its print's (wip/shrink.py)
namespace Go.Den
open Go Go.RowKit
def StepG (P : Program) (ops : Array Oper) (cx : Cx) (i : Nat) (σ : St) (M : Gh) (K : St → Gh → Prop) : Prop := ∀ (Q : Exit → Act → World → Prop) (K' : Act → World → Prop) a w, RG cx M σ a w → (∀ σ' M' a' w', K σ' M' → RG cx M' σ' a' w' → K' a' w') → wpOp P ops Q i K' a w
def ordG (P : Program) (ops : Array Oper) (cx : Cx) (K : St → Gh → Prop) : OT → St → Gh → Prop
  | .done, σ, M => K σ M
  | .none, _, _ => True
  | .alt i t r, σ, M => StepG P ops cx i σ M (fun σ' M' => ordG P ops cx K t σ' M') ∧ ordG P ops cx K r σ M
section
variable {P : Program} {cx : Cx} {σ : St} {M : Gh} {ops : Array Oper} {tb : Tb} {i : Nat}
theorem StepG.den (tok : TbOk P tb) (hM : GhOk M) {ow : Bool} {o : Oper} {K : St → Gh → Prop} (hi : ops[i]? = some o) (σ1 : St) (hw : stepA P tb ops ow o σ fun s h1 => σ.put o.dst s h1 fun σ' => σ' = σ1) (hk : K σ1 M) : StepG P ops cx i σ M K := fun Q K' a w r h =>
  stepG_ok tok hM hi hw r fun σ' a' w' e r' => h σ' M a' w' (by rw [e]; exact hk) r'
theorem RunG.step {Q : Exit → St → Gh → Prop} {is : List Nat} (h : StepG P ops cx i σ M fun σ' M' => RunG P ops cx is σ' M' Q) : RunG P ops cx (i :: is) σ M Q := fun a w r => by
  rw [wpOps_cons]; exact h _ _ a w r fun σ' M' a' w' hk r' => hk a' w' r'
theorem StepG.raw {o : Oper} {K : St → Gh → Prop} (hi : ops[i]? = some o) (hg : o.guard = none) (hd : ∀ d, o.dst = some d → d < σ.n)
    (hr : ∀ a w U ρ, R0 cx U ρ σ a w → M U ρ σ.heap w → ∃ v w1 U1 ρ1 s h1 M1, ((execOp a.eval o).run P w = .ok (.value v) w1) ∧ R0 cx U1 ρ1 { σ with heap := h1 } a w1 ∧ M1 U1 ρ1 h1 w1 ∧ SR U1 ρ1 h1 w1 s v ∧ K { env := putE o.dst s σ.env, heap := h1, n := σ.n } M1) : StepG P ops cx i σ M K := fun Q K' a w ⟨U, ρ, r, m⟩ hk => by
  obtain ⟨v, w1, U1, ρ1, s, h1, M1, hrun, r1, m1, hs, hK⟩ := hr a w U ρ r m; unfold wpOp; simp only [hi]; have hwant : Region.wanted o (yielded ops a.tmps) = true := by unfold Region.wanted; rw [hg]
  rw [if_pos hwant]; refine .inl ?_; unfold Oper.wp; rw [hrun]; refine hk _ M1 _ _ hK ?_
  cases hdd : o.dst with
  | none => exact ⟨U1, ρ1, r1, m1⟩
  | some d => exact ⟨U1, ρ1, r1.put (s := s) (hd d hdd) hs, m1⟩
theorem ordG_ok {K : St → Gh → Prop} {Q : Exit → Act → World → Prop} (hQ : ∀ σ' M' a' w', K σ' M' → RG cx M' σ' a' w' → Q .normal a' w') : ∀ (t : OT),
    (∀ n listed σ M a w j, ordChk ops t listed (n + 1) = true → ordG P ops cx K t σ M → RG cx M σ a w → j ∈ t.heads → wpOp P ops Q j (fun a' w' => wpAny P .any ops Q n (listed.setIfInBounds j true) a' w') a w) ∧
    (∀ n listed σ M a w, ordChk ops t listed n = true → (∀ j ∈ Region.ready .any ops listed, j ∈ t.heads) → t.some_ = true → ordG P ops cx K t σ M → RG cx M σ a w → wpAny P .any ops Q n listed a w)
  | .done => ⟨fun _ _ _ _ _ _ j _ _ _ hj => by simp [OT.heads] at hj, fun n listed σ M a w _ hr _ hw r => by
      refine wpAny_done ?_ (hQ σ M a w hw r) _
      cases he : Region.ready .any ops listed with
      | nil => rfl
      | cons i t => exact absurd (hr i (by rw [he]; simp)) (by simp [OT.heads])⟩
  | .none => ⟨fun _ _ _ _ _ _ j _ _ _ hj => by simp [OT.heads] at hj, fun _ _ _ _ _ _ _ _ h => by cases h⟩
  | .alt i t r => by
    have hA : ∀ n listed σ M a w j, ordChk ops (.alt i t r) listed (n + 1) = true → ordG P ops cx K (.alt i t r) σ M → RG cx M σ a w → j ∈ (OT.alt i t r).heads → wpOp P ops Q j (fun a' w' => wpAny P .any ops Q n (listed.setIfInBounds j true) a' w') a w := by
      intro n listed σ M a w j hc hw hr hj; unfold ordChk at hc; simp only [Bool.and_eq_true, List.all_eq_true, List.any_eq_true] at hc; obtain ⟨⟨⟨⟨_, h1⟩, h2⟩, h3⟩, h4⟩ := hc; rcases List.mem_cons.1 hj with rfl | hj
      · refine hw.1 _ _ a w hr fun σ' M' a' w' hK r' => ?_; refine (ordG_ok hQ t).2 n _ σ' M' _ _ h3 (fun k hk => ?_) h1 hK r'; obtain ⟨x, hx, he⟩ := h2 k hk; rw [← nb_eq he]; exact hx
      · exact (ordG_ok hQ r).1 n listed σ M a w j h4 hw.2 hr hj
    refine ⟨hA, fun n listed σ M a w hc hr hs hw r0 => ?_⟩
    cases n with
    | zero => unfold ordChk at hc; cases hc
    | succ n =>
      refine ⟨fun he => ?_, fun j hj => hA n listed σ M a w j hc hw r0 (hr j hj)⟩; unfold ordChk at hc; rw [he] at hc; simp at hc
def GhDrew (M : Gh) : Prop := ∀ U ρ h w, M U ρ h w → M U ρ h { w with drawn := w.drawn + 1 }
theorem RG.drew (hM : GhDrew M) {a : Act} {w : World} (r : RG cx M σ a w) : RG cx M σ a { w with drawn := w.drawn + 1 } := by
  obtain ⟨U, ρ, r, m⟩ := r; have t : Tr U w U { w with drawn := w.drawn + 1 } := ⟨⟨rfl, rfl, rfl, Nat.le_refl _, fun _ _ _ => rfl⟩, fun _ _ h => h⟩
  refine ⟨U, ρ, ⟨r.size, r.defers, fun t' => (r.env t').tr t (Ext.refl _ _), ⟨fun id b hb => ?_, r.hr.apart, r.hr.inU⟩, ?_, r.newU, r.oldU, r.places, r.ext⟩, hM U ρ _ w m⟩
  · exact (r.hr.blk id b hb).tr hb t (Ext.refl _ _) (fun _ _ _ => rfl) (fun _ _ => rfl)
  · exact r.agree.trans ⟨rfl, rfl, rfl, Nat.le_refl _, fun _ _ _ => rfl⟩ fun _ _ h => h
variable {U : Nat → Prop} {ρ : Nat → Value} {a : Act} {w w1 : World}
theorem R0.other {X : Nat → Prop} (r : R0 cx U ρ σ a w) (ag : Agree X w w1) (hX : ∀ k, X k → k < w.heap.size → U k ∧ ¬ Wr ρ σ.heap k ∧ (cx.W0 k ∨ cx.w0.heap.size ≤ k)) : R0 cx U ρ σ a w1 := by
  have t : Tr U w U w1 := ⟨ag.mono fun b hb hx => (hX b hx hb).1, fun _ _ h => h⟩
  refine ⟨r.size, r.defers, fun t' => (r.env t').tr t (Ext.refl _ _), ⟨fun id b hb => ?_, r.hr.apart, fun i g hi => ⟨(r.hr.inU i g hi).1, Nat.lt_of_lt_of_le (r.hr.inU i g hi).2 ag.size⟩⟩, ?_, r.newU, r.oldU, r.places, r.ext⟩
  · exact (r.hr.blk id b hb).tr hb t (Ext.refl _ _) (fun _ _ _ => rfl) fun g hg => ag.block g (r.hr.inU id g hg).2 fun hx => (hX g hx (r.hr.inU id g hg).2).2.1 ⟨id, hg⟩
  · exact r.agree.trans ag fun b hb hx => ((hX b hx (Nat.lt_of_lt_of_le hb r.agree.size)).2.2).resolve_right (by omega)
theorem R0.pushRow {e : Nat} {k : K} {xs : List k.T} {v : Value} (r : R0 cx U ρ σ a w) (hb : BR U (fun _ => v) [] w 0 (.row e k xs)) (hn : ∀ g, v.ownBlock = some g → U g ∧ ¬ Wr ρ σ.heap g ∧ (cx.W0 g ∨ cx.w0.heap.size ≤ g) ∧ g < w.heap.size) :
    R0 cx U (upd ρ σ.heap.length v) { σ with heap := σ.heap ++ [.row e k xs] } a w := by
  have hpl : place (upd ρ σ.heap.length v) (σ.heap ++ [.row e k xs]) σ.heap.length = v.ownBlock := by
    unfold place; rw [get_push, upd_at]
  have hcase : ∀ i g, place (upd ρ σ.heap.length v) (σ.heap ++ [.row e k xs]) i = some g → (i < σ.heap.length ∧ place ρ σ.heap i = some g) ∨ (i = σ.heap.length ∧ v.ownBlock = some g) := fun i g hi => by
    have li := place_lt hi; simp at li; rcases Nat.lt_or_ge i σ.heap.length with h | h
    · exact .inl ⟨h, by rw [place_push_lt h] at hi; exact hi⟩
    · obtain rfl : i = σ.heap.length := by omega
      exact .inr ⟨rfl, hpl.symm.trans hi⟩
  refine ⟨r.size, r.defers, fun t => (r.env t).tr (Tr.refl _ _) (Ext.push _ _ _ _), ⟨fun id b hid => ?_, fun i j g hi hj => ?_, fun i g hi => ?_⟩, r.agree, r.newU, r.oldU, fun i g hi => ?_, r.ext.trans (Ext.push _ _ _ _)⟩
  · rcases Nat.lt_or_ge id σ.heap.length with hl | hl
    · have hid : (σ.heap ++ [Blk.row e k xs])[id]? = some b := hid; rw [get_push_lt hl] at hid; exact (r.hr.blk id b hid).tr hid (Tr.refl _ _) (Ext.push _ _ _ _) (fun x _ e => by subst e; exact upd_ne (Nat.ne_of_lt hl)) (fun _ _ => rfl)
    · have hid : (σ.heap ++ [Blk.row e k xs])[id]? = some b := hid; have hl2 : id < (σ.heap ++ [Blk.row e k xs]).length := (List.getElem?_eq_some_iff.1 hid).1; obtain rfl : id = σ.heap.length := by simp at hl2; omega
      rw [get_push] at hid; obtain rfl := Option.some.inj hid; obtain ⟨cs, h1, h2⟩ := hb; exact ⟨cs, by rw [upd_at]; exact h1, h2⟩
  · rcases hcase i g hi with ⟨_, h1⟩ | ⟨rfl, h1⟩ <;> rcases hcase j g hj with ⟨_, h2⟩ | ⟨rfl, h2⟩
    · exact r.hr.apart i j g h1 h2
    · exact absurd ⟨i, h1⟩ (hn g h2).2.1
    · exact absurd ⟨j, h2⟩ (hn g h1).2.1
    · rfl
  · rcases hcase i g hi with ⟨_, h1⟩ | ⟨_, h1⟩
    · exact r.hr.inU i g h1
    · exact ⟨(hn g h1).1, (hn g h1).2.2.2⟩
  · rcases hcase i g hi with ⟨_, h1⟩ | ⟨_, h1⟩
    · exact r.places i g h1
    · exact (hn g h1).2.2.1
theorem Wr.push {e : Nat} {k : K} {xs : List k.T} {v : Value} {h : List Blk} {g : Nat} (hw : Wr (upd ρ h.length v) (h ++ [.row e k xs]) g) : Wr ρ h g ∨ v.ownBlock = some g := by
  obtain ⟨i, hi⟩ := hw; have li := place_lt hi; simp at li; rcases Nat.lt_or_ge i h.length with h1 | h1
  · rw [place_push_lt h1] at hi; exact .inl ⟨i, hi⟩
  · obtain rfl : i = h.length := by omega
    unfold place at hi; rw [get_push, upd_at] at hi; exact .inr hi
theorem Ext.dead (ρ : Nat → Value) (h : List Blk) (id : Nat) : Ext ρ h ρ (h.set id .dead) := by
  refine ⟨by simp, fun i k hi hk => ⟨?_, rfl⟩, fun i hi hk => ⟨?_, rfl⟩⟩
  · by_cases he : id = i
    · subst he; unfold rowK at hk; rw [get_set hi] at hk
      cases hk
    · unfold rowK at hk ⊢; rw [get_set_ne he] at hk; exact hk
  · by_cases he : id = i
    · subst he; unfold isBox at hk; rw [get_set hi] at hk
      cases hk
    · unfold isBox at hk ⊢; rw [get_set_ne he] at hk; exact hk
theorem place_dead {h : List Blk} {id i g : Nat} (hi : place ρ (h.set id .dead) i = some g) : i ≠ id ∧ place ρ h i = some g := by
  by_cases he : id = i
  · subst he; have hl := place_lt hi; simp at hl; unfold place at hi; rw [get_set hl] at hi
    cases hi
  · refine ⟨fun e => he e.symm, ?_⟩; unfold place at hi ⊢; rw [get_set_ne he] at hi; exact hi
theorem R0.kill (r : R0 cx U ρ σ a w) (id : Nat) : R0 cx U ρ { σ with heap := σ.heap.set id .dead } a w := by
  refine ⟨r.size, r.defers, fun t => (r.env t).tr (Tr.refl _ _) (Ext.dead _ _ _), ⟨fun i b hb => ?_, fun i j g hi hj => r.hr.apart i j g (place_dead hi).2 (place_dead hj).2, fun i g hi => r.hr.inU i g (place_dead hi).2⟩, r.agree, r.newU, r.oldU, fun i g hi => r.places i g (place_dead hi).2, r.ext.trans (Ext.dead _ _ _)⟩; have hb : (σ.heap.set id .dead)[i]? = some b := hb
  by_cases he : id = i
  · subst he; have hl : id < (σ.heap.set id .dead).length := (List.getElem?_eq_some_iff.1 hb).1; simp at hl; rw [get_set hl] at hb; obtain rfl := Option.some.inj hb; trivial
  · rw [get_set_ne he] at hb; exact (r.hr.blk i b hb).tr hb (Tr.refl _ _) (Ext.dead _ _ _) (fun _ _ _ => rfl) (fun _ _ => rfl)
theorem R0.less {U1 : Nat → Prop} (r : R0 cx U ρ σ a w) (hu : ∀ b, U1 b → U b) (hp : ∀ i g, place ρ σ.heap i = some g → U1 g) (ho : ∀ b, b < cx.w0.heap.size → U b → U1 b ∨ cx.W0 b) : R0 cx U1 ρ σ a w := by
  have t : Tr U w U1 w := ⟨Agree.refl _ _, fun b _ h => hu b h⟩
  refine ⟨r.size, r.defers, fun t' => (r.env t').tr t (Ext.refl _ _), ⟨fun id b hb => ?_, r.hr.apart, fun i g hi => ⟨hp i g hi, (r.hr.inU i g hi).2⟩⟩, r.agree, fun b hb h => r.newU b hb (hu b h), fun b hb h => ?_, r.places, r.ext⟩
  · exact (r.hr.blk id b hb).tr hb t (Ext.refl _ _) (fun _ _ _ => rfl) (fun _ _ => rfl)
  · rcases r.oldU b hb h with h | h
    · exact ho b hb h
    · exact .inr h
end
end Go.Den
end
section
-- the texts that this claim needs, out of this session's and its print's (wip/shrink.py)
namespace Go.Den
open Go Go.RowKit Go.Proofs Go.Proofs.Ytibfkkjkahpobaa.PDag
open Go.ChangeMaps (setBlock heap_setBlock_same heap_setBlock_other)
@[reducible] def kS : K := .pair (.int .i64) (.pair (.int .i64) .unit)
structure OwnM (cx : Cx) (b : Nat) (o : Obj) (v : S24 → Value) (g : S24 → List kS.T) (D : S24 → Prop) (U : Nat → Prop) (ρ : Nat → Value) (h : List Blk) (w : World) : Prop where
  obj : w.heap[b]? = some o
  foot : U b ∧ ¬ Wr ρ h b ∧ (cx.W0 b ∨ cx.w0.heap.size ≤ b)
  row : ∀ x, okI x = true → D x → ∃ cs, w.ownsRow 0 112 kS.sz (v x) (g x).length cs ∧ Lie (KS U w kS) kS.sz (g x) cs
  blk : ∀ x, okI x = true → D x → ∀ k, (v x).ownBlock = some k → U k ∧ ¬ Wr ρ h k ∧ (cx.W0 k ∨ cx.w0.heap.size ≤ k) ∧ k < w.heap.size ∧ k ≠ b
  apart : ∀ x y, okI x = true → okI y = true → D x → D y → ∀ k, (v x).ownBlock = some k → (v y).ownBlock = some k → x = y
section
variable {cx : Cx} {b n : Nat} {o : Obj} {v : S24 → Value} {g : S24 → List kS.T} {D : S24 → Prop} {U U1 : Nat → Prop} {ρ ρ1 : Nat → Value} {h h1 : List Blk} {w w1 : World}
theorem lt_of_obj (hb : w.heap[b]? = some o) : b < w.heap.size := by
  obtain ⟨h, _⟩ := Array.getElem?_eq_some_iff.1 hb; exact h
theorem Go1.free (gg : Go1 U ρ h w U1 ρ1 h1 w1) {k : Nat} (hu : U k) (hn : ¬ Wr ρ h k) (hl : k < w.heap.size) : U1 k ∧ ¬ Wr ρ1 h1 k ∧ w1.heap[k]? = w.heap[k]? :=
  ⟨(gg.keep k hl hu).resolve_right hn, fun ⟨i, hi⟩ => (gg.places i k hi).elim hn (by omega), gg.agree.block k hl hn⟩
theorem OwnM.stay (m : OwnM cx b o v g D U ρ h w) (hr : HR U ρ h w) (gg : Go1 U ρ h w U1 ρ1 h1 w1) : OwnM cx b o v g D U1 ρ1 h1 w1 := by
  have hb := lt_of_obj m.obj; have fb := gg.free m.foot.1 m.foot.2.1 hb; refine ⟨fb.2.2.trans m.obj, ⟨fb.1, fb.2.1, m.foot.2.2⟩, fun x hx hd => ?_, fun x hx hd k hk => ?_, m.apart⟩
  · obtain ⟨cs, h2, h3⟩ := m.row x hx hd; refine ⟨cs, ownsRow_move h2 fun k hk => ?_, h3.imp fun _ _ hc => hc.tr (gg.tr hr)⟩; have hk' := m.blk x hx hd k hk; exact (gg.free hk'.1 hk'.2.1 hk'.2.2.2.1).2.2
  · have hk' := m.blk x hx hd k hk; have fk := gg.free hk'.1 hk'.2.1 hk'.2.2.2.1; exact ⟨fk.1, fk.2.1, hk'.2.2.1, Nat.lt_of_lt_of_le hk'.2.2.2.1 gg.agree.size, hk'.2.2.2.2⟩
theorem OwnM.cut (m : OwnM cx b o v g D U ρ h w) (hw : ∀ k, Wr ρ1 h1 k → Wr ρ h k) : OwnM cx b o v g D U ρ1 h1 w :=
  ⟨m.obj, ⟨m.foot.1, fun hk => m.foot.2.1 (hw b hk), m.foot.2.2⟩, m.row, fun x hx hd k hk => by
    have hk' := m.blk x hx hd k hk
    exact ⟨hk'.1, fun hq => hk'.2.1 (hw k hq), hk'.2.2⟩, m.apart⟩
theorem tr_drew : Tr U w U { w with drawn := w.drawn + 1 } := ⟨⟨rfl, rfl, rfl, Nat.le_refl _, fun _ _ _ => rfl⟩, fun _ _ h => h⟩
theorem OwnM.drew (m : OwnM cx b o v g D U ρ h w) : OwnM cx b o v g D U ρ h { w with drawn := w.drawn + 1 } :=
  ⟨m.obj, m.foot, fun x hx hd => by
    obtain ⟨cs, h2, h3⟩ := m.row x hx hd
    exact ⟨cs, ownsRow_move h2 fun k hk => rfl, h3.imp fun _ _ hc => hc.tr tr_drew⟩, m.blk, m.apart⟩
def MO (cx : Cx) (b : Nat) (g : S24 → List kS.T) (n : Nat) : Gh := fun U ρ h w => ∃ o v, MapOk o v n ∧ OwnM cx b o v g (fun _ => True) U ρ h w
def MI (cx : Cx) (b : Nat) (g : S24 → List kS.T) (n : Nat) (x : S24) (st : Nat) : Gh := fun U ρ h w => ∃ o1 v, (∃ es1 clock1, o1 = .map es1 clock1) ∧
  (∀ (w2 : World) (val : Value), w2.heap[b]? = some o1 → ∃ es' clock', (Instr.entryStore 130 (.map (some b)) (goInt st) val).run Try.prog  w2 = .ok () (setBlock w2 b (.map es' clock')) ∧ MapOk (.map es' clock') (fun y => if eqI y x = true then val else v y) (n + 1)) ∧
  OwnM cx b o1 v g (fun y => y ≠ x) U ρ h w
def MR (cx : Cx) (b : Nat) (g : S24 → List kS.T) (n : Nat) : Gh := fun U ρ h w => ∃ o v, MapOk o v n ∧ w.heap[b]? = some o ∧ (U b ∧ ¬ Wr ρ h b ∧ (cx.W0 b ∨ cx.w0.heap.size ≤ b)) ∧ ∀ x, okI x = true → KS U w (.row 112 kS) (g x) [v x]
theorem wr_cut {src : List Nat} (hp : ∀ i g, place (ρcut ρ src) (heapCut src h) i = some g → Wr ρ h g) : ∀ k, Wr (ρcut ρ src) (heapCut src h) k → Wr ρ h k := fun k ⟨i, hi⟩ => hp i k hi
theorem MO.ok : GhOk (MO cx b g n) := ⟨fun hr ⟨o, v, h1, h2⟩ gg => ⟨o, v, h1, h2.stay hr gg⟩, fun src _ hp ⟨o, v, h1, h2⟩ => ⟨o, v, h1, h2.cut (wr_cut hp)⟩⟩
theorem MO.drew : GhDrew (MO cx b g n) := fun U ρ h w ⟨o, v, h1, h2⟩ => ⟨o, v, h1, h2.drew⟩
theorem MI.ok {x : S24} {st : Nat} : GhOk (MI cx b g n x st) := ⟨fun hr ⟨o, v, h0, h1, h2⟩ gg => ⟨o, v, h0, h1, h2.stay hr gg⟩, fun src _ hp ⟨o, v, h0, h1, h2⟩ => ⟨o, v, h0, h1, h2.cut (wr_cut hp)⟩⟩
theorem MR.ok : GhOk (MR cx b g n) := ⟨fun {U ρ h w U1 ρ1 h1 w1} hr ⟨o, v, m1, m2, m3, m4⟩ gg => by
    have fb := gg.free m3.1 m3.2.1 (lt_of_obj m2); exact ⟨o, v, m1, fb.2.2.trans m2, ⟨fb.1, fb.2.1, m3.2.2⟩, fun x hx => KS.tr (k := .row 112 kS) (m4 x hx) (gg.tr hr)⟩,
  fun src _ hp ⟨o, v, m1, m2, m3, m4⟩ => ⟨o, v, m1, m2, ⟨m3.1, fun hk => m3.2.1 (wr_cut hp b hk), m3.2.2⟩, m4⟩⟩
theorem MR.drew : GhDrew (MR cx b g n) := fun U ρ h w ⟨o, v, m1, m2, m3, m4⟩ => ⟨o, v, m1, m2, m3, fun x hx => KS.tr (k := .row 112 kS) (m4 x hx) tr_drew⟩
theorem set_agree {es : Array MapEntry} {clock : Nat} (hb : w.heap[b]? = some (.map es clock)) (o1 : Obj) : Agree (fun k => k = b) w (setBlock w b o1) :=
  ⟨rfl, rfl, rfl, by show _ ≤ (w.heap.setIfInBounds b o1).size; simp, fun k hk hn => heap_setBlock_other hb o1 hn⟩
theorem Go1.grown (hr : HR U ρ h w) (ag : Agree (fun _ => False) w w1) (hb : b = w.heap.size) (hl : b < w1.heap.size) : Go1 U ρ h w (fun x => (U x ∧ x < w.heap.size) ∨ x = b) ρ h w1 := by
  have less : ∀ x, x < w.heap.size → ((U x ∧ x < w.heap.size) ∨ x = b) → U x := fun x hx hu => hu.elim (·.1) (by omega); have tr : Tr U w (fun x => (U x ∧ x < w.heap.size) ∨ x = b) w1 := ⟨ag.mono (fun _ _ h => h.elim), less⟩
  exact ⟨ag.mono (fun _ _ h => h.elim), less, fun x hx hu => .inl (.inl ⟨hu, hx⟩), ⟨fun id bk hid => (hr.blk id bk hid).tr hid tr (Ext.refl _ _) (fun _ _ _ => rfl) (fun k hk => ag.block k (hr.inU id k hk).2 (fun h => h)), hr.apart, fun i k hi => ⟨.inl (hr.inU i k hi), Nat.lt_of_lt_of_le (hr.inU i k hi).2 ag.size⟩⟩, Ext.refl _ _, fun i k hi => .inl ⟨i, hi⟩⟩
theorem owns_one {base : Nat} {e : TypeId} {size m : Nat} {u : Value} {cs : List Value} (h : w.ownsRow base e size u m cs) : u.oneCell' = true := by
  rcases h.2 with ⟨rfl, _⟩ | ⟨_, _, _, rfl, _⟩ <;> rfl
theorem owns_nil : w.ownsRow 0 112 kS.sz nilV 0 [] := by
  refine ⟨?_, .inl ⟨rfl, rfl⟩⟩; simp
variable {σ : St} {ops : Array Oper} {i d : Nat} {op : Oper} {K' : St → Gh → Prop} {x : S24} {tm tk ts tv : Operand}
theorem run_v {P : Program} {a : Act} {u : Value} {s : Sem Value} (hs : execOp a.eval op = (do let y ← s; pure (.value y))) (hr : s.run P w = .ok u w1) : (execOp a.eval op).run P w = .ok (.value u) w1 := by
  rw [hs]; simp [hr, Result.andThen]
theorem run_u {P : Program} {a : Act} {s : Sem Unit} (hs : execOp a.eval op = (do s; pure .skip)) (hr : s.run P w = .ok () w1) : (execOp a.eval op).run P w = .ok .skip w1 := by
  rw [hs]; simp [hr, Result.andThen]
end
end Go.Den
end
section
-- the texts that this claim needs, out of this session's and its print's (wip/shrink.py)
namespace Go.Den
open Go Go.RowKit Go.Proofs Go.Proofs.Ytibfkkjkahpobaa.PDag
open Go.ChangeMaps (setBlock heap_setBlock_same heap_setBlock_other)
section
variable {P : Program} {cx : Cx} {σ : St} {M : Gh} {ops : Array Oper} {tb : Tb} {i : Nat}
theorem StepG.rawU {o : Oper} {K : St → Gh → Prop} (hi : ops[i]? = some o) (hg : o.guard = none) (hd : o.dst = none)
    (hr : ∀ a w U ρ, R0 cx U ρ σ a w → M U ρ σ.heap w → ∃ w1 U1 ρ1 h1 M1, ((execOp a.eval o).run P w = .ok .skip w1) ∧ R0 cx U1 ρ1 { σ with heap := h1 } a w1 ∧ M1 U1 ρ1 h1 w1 ∧ K { σ with heap := h1 } M1) : StepG P ops cx i σ M K := fun Q K' a w ⟨U, ρ, r, m⟩ hk => by
  obtain ⟨w1, U1, ρ1, h1, M1, hrun, r1, m1, hK⟩ := hr a w U ρ r m; unfold wpOp; simp only [hi]; have hwant : Region.wanted o (yielded ops a.tmps) = true := by unfold Region.wanted; rw [hg]
  rw [if_pos hwant]; refine .inl ?_; unfold Oper.wp; rw [hrun]; refine hk _ M1 _ _ hK ?_; rw [hd]; exact ⟨U1, ρ1, r1, m1⟩
theorem WG.seqR {id : Nat} {y : Code} {Q : Exit → St → Gh → Prop} (tok : TbOk P tb) (hM : GhOk M) (σ1 : St) (h : opsA P tb ops ops.toList σ (fun σ' => σ' = σ1)) (hk : WG P cx y σ1 M Q) : WG P cx (.seq (.region id ops false) y) σ M Q := by
  refine WG.seq (WG.reg ?_); have := RunG.den (cx := cx) (ops := ops) (Q := thenG Q fun σ' M' => WG P cx y σ' M' Q) tok hM σ1 (RunG.nil hk) ops.size 0 σ (by omega) (by rw [List.drop_zero, List.take_of_length_le (by simp)]; exact h)
  rwa [List.append_nil] at this
theorem WG.regR {id : Nat} {Q : Exit → St → Gh → Prop} (tok : TbOk P tb) (hM : GhOk M) (σ1 : St) (h : opsA P tb ops ops.toList σ (fun σ' => σ' = σ1)) (hk : Q .normal σ1 M) : WG P cx (.region id ops false) σ M Q := by
  refine WG.reg ?_; have := RunG.den (cx := cx) (ops := ops) (Q := Q) tok hM σ1 (RunG.nil hk) ops.size 0 σ (by omega) (by rw [List.drop_zero, List.take_of_length_le (by simp)]; exact h)
  rwa [List.append_nil] at this
end
attribute [simp] opsA
section
variable {cx : Cx} {b n : Nat} {g : S24 → List kS.T} {σ : St} {ops : Array Oper} {i d : Nat} {op : Oper} {K' : St → Gh → Prop} {x : S24} {tm tk ts tv : Operand}
theorem StepG.makeMap (hi : ops[i]? = some op) (ho : op.op = .makeMap 130 none) (hg : op.guard = none) (hd : op.dst = some d) (hn : d < σ.n) (hk : ∀ b, K' { env := putE (some d) (.raw (.map (some b))) σ.env, heap := σ.heap, n := σ.n } (MO cx b (fun _ => []) 0)) : StepG Try.prog  ops cx i σ gh0 K' := by
  refine StepG.raw hi hg (fun d' hd' => by rw [hd] at hd'; obtain rfl := Option.some.inj hd'; exact hn) fun a w U ρ r m => ?_; have hs : (w.alloc (.map #[] 0)).heap.size = w.heap.size + 1 := by show (w.heap.push _).size = _; simp
  have ag : Agree (fun _ => False) w (w.alloc (.map #[] 0)) := ⟨rfl, rfl, rfl, by omega, fun k hk _ => by show (w.heap.push _)[k]? = _; simp [Array.getElem?_push, Nat.ne_of_lt hk]⟩
  have gg := Go1.grown r.hr ag (b := w.heap.size) rfl (by omega); refine ⟨.map (some w.heap.size), w.alloc (.map #[] 0), _, ρ, .raw (.map (some w.heap.size)), σ.heap, MO cx w.heap.size (fun _ => []) 0, run_v (by unfold execOp; rw [ho]) rfl, r.step gg, ⟨_, _, map_made, ?_⟩, rfl, by rw [hd]; exact hk _⟩; refine ⟨by show (w.heap.push _)[w.heap.size]? = _; simp, ⟨.inr rfl, fun ⟨j, hj⟩ => absurd (r.hr.inU j _ hj).2 (Nat.lt_irrefl _), .inr r.agree.size⟩, fun x _ _ => ⟨[], owns_nil, by simp [Lie]⟩, fun x _ _ k hk => ?_, fun x y _ _ _ _ k hk => ?_⟩ <;> (simp [nilV, Value.ownBlock] at hk)
theorem StepG.mapEntry (hi : ops[i]? = some op) (ho : op.op = .mapEntry 130 tm tk) (hg : op.guard = none) (hd : op.dst = some d) (hn : d < σ.n) (hm : σ.ev tm = .raw (.map (some b))) (ht : σ.ev tk = .agg (kIns.flat (f24 x))) (hx : okI x = true) (hnl : n < maxLen)
    (hk : ∀ st, K' { env := putE (some d) (.tup [(false, [.own σ.heap.length]), (false, [.int .i64 (st : Nat)])]) σ.env, heap := σ.heap ++ [.row 112 kS (g x)], n := σ.n } (MI cx b g n x st)) : StepG Try.prog  ops cx i σ (MO cx b g n) K' := by
  refine StepG.raw hi hg (fun d' hd' => by rw [hd] at hd'; obtain rfl := Option.some.inj hd'; exact hn) fun a w U ρ r ⟨o, v, hmo, m⟩ => ?_; have e1 := r.ev tm; rw [hm] at e1; have e1 : a.eval tm = .map (some b) := e1; have e2 := r.ev tk; rw [ht] at e2; obtain ⟨cs, e2, e3⟩ := e2; obtain rfl := insVal e3; have e2 : a.eval tk = keyV x := e2; obtain ⟨st, o1, ho1, hrun, hst⟩ := map_entry hmo m.obj hx hnl; obtain ⟨es, clock, ho2, _⟩ := hmo; subst ho2; have hbl := lt_of_obj m.obj; have ag := set_agree m.obj o1; have tr : Tr U w U (setBlock w b o1) := ⟨ag.mono fun k _ hk => by rw [hk]; exact m.foot.1, fun _ _ h => h⟩
  have r1 := r.other ag (fun k hk _ => by rw [hk]; exact m.foot)
  have hrow : ∀ y, okI y = true → ∃ cs, (setBlock w b o1).ownsRow 0 112 kS.sz (v y) (g y).length cs ∧ Lie (KS U (setBlock w b o1) kS) kS.sz (g y) cs := fun y hy => by
    obtain ⟨cs, h2, h3⟩ := m.row y hy trivial; exact ⟨cs, ownsRow_move h2 fun k hk => ag.block k (m.blk y hy trivial k hk).2.2.2.1 (m.blk y hy trivial k hk).2.2.2.2, h3.imp fun _ _ hc => hc.tr tr⟩
  have hs : (setBlock w b o1).heap.size = w.heap.size := by show (w.heap.setIfInBounds b o1).size = _; simp
  have r2 := r1.pushRow (e := 112) (k := kS) (xs := g x) (v := v x) (hrow x hx) fun k hk => by
    have := m.blk x hx trivial k hk; exact ⟨this.1, this.2.1, this.2.2.1, by rw [hs]; exact this.2.2.2.1⟩
  have hone : (v x).oneCell' = true := by
    obtain ⟨cs, h2, _⟩ := m.row x hx trivial; exact owns_one h2
  refine ⟨.tuple #[v x, goInt st], setBlock w b o1, U, _, .tup [(false, [.own σ.heap.length]), (false, [.int .i64 (st : Nat)])], _, MI cx b g n x st, run_v (u := .tuple #[v x, goInt st]) (by unfold execOp; rw [ho]) (by rw [e1, e2]; exact hrun), r2, ⟨o1, v, ho1, hst, ?_⟩, ?_, by rw [hd]; exact hk st⟩
  · refine ⟨heap_setBlock_same m.obj o1, ⟨m.foot.1, fun hw => ?_, m.foot.2.2⟩, fun y hy _ => hrow y hy, fun y hy hyx k hk => ?_, fun y z hy hz _ _ => m.apart y z hy hz trivial trivial⟩
    · rcases hw.push with h1 | h1
      · exact m.foot.2.1 h1
      · exact (m.blk x hx trivial b h1).2.2.2.2 rfl
    · have hb := m.blk y hy trivial k hk; refine ⟨hb.1, fun hw => ?_, hb.2.2.1, by rw [hs]; exact hb.2.2.2.1, hb.2.2.2.2⟩; rcases hw.push with h1 | h1
      · exact hb.2.1 h1
      · exact hyx (m.apart y x hy hx trivial trivial k hk h1)
  · refine ⟨_, rfl, All2.cons ⟨.own σ.heap.length, rfl, hone, by simp, fun _ _ => (upd_at _ _ _).symm⟩ (All2.cons ⟨.int .i64 (st : Nat), rfl, rfl⟩ All2.nil)⟩
theorem StepG.entryStore {id st : Nat} {ys : List kS.T} (hi : ops[i]? = some op) (ho : op.op = .entryStore 130 tm ts tv) (hg : op.guard = none) (hd : op.dst = none) (hm : σ.ev tm = .raw (.map (some b))) (ht : σ.ev ts = .one (.int .i64 (st : Nat))) (hv : σ.ev tv = .one (.own id)) (hid : σ.heap[id]? = some (.row 112 kS ys)) (hx : okI x = true)
    (hk : K' { σ with heap := σ.heap.set id .dead } (MO cx b (fun y => if eqI y x = true then ys else g y) (n + 1))) : StepG Try.prog  ops cx i σ (MI cx b g n x st) K' := by
  refine StepG.rawU hi hg hd fun a w U ρ r ⟨o1, v, ⟨es1, clock1, ho1⟩, hst, m⟩ => ?_; subst ho1; have e1 := r.ev tm; rw [hm] at e1; have e1 : a.eval tm = .map (some b) := e1; have e2 := r.ev ts; rw [ht] at e2; have e2 : a.eval ts = goInt st := e2; have e3 := r.ev tv; rw [hv] at e3; have e3 : a.eval tv = ρ id := e3.2.2 kS (rowK_row hid); obtain ⟨cs, h1, h2⟩ := r.hr.blk _ _ hid; obtain ⟨es', clock', hrun, hmo⟩ := hst w (ρ id) m.obj; have hpl : ∀ k, (ρ id).ownBlock = some k → place ρ σ.heap id = some k := fun k hk => by rw [place_row hid]; exact hk
  have ag := set_agree m.obj (.map es' clock'); have tr : Tr U w U (setBlock w b (.map es' clock')) := ⟨ag.mono fun k _ hk => by rw [hk]; exact m.foot.1, fun _ _ h => h⟩
  have r1 := (r.other ag (fun k hk _ => by rw [hk]; exact m.foot)).kill id; have hs : (setBlock w b (.map es' clock')).heap.size = w.heap.size := by show (w.heap.setIfInBounds b _).size = _; simp
  have hdead : ∀ k, Wr ρ (σ.heap.set id .dead) k → Wr ρ σ.heap k ∧ (ρ id).ownBlock ≠ some k := fun k ⟨j, hj⟩ => by
    obtain ⟨h3, h4⟩ := place_dead hj; exact ⟨⟨j, h4⟩, fun h5 => h3 (r.hr.apart j id k h4 (hpl k h5))⟩
  have hxb : ∀ k, (ρ id).ownBlock = some k → U k ∧ ¬ Wr ρ (σ.heap.set id .dead) k ∧ (cx.W0 k ∨ cx.w0.heap.size ≤ k) ∧ k < w.heap.size ∧ k ≠ b := fun k hk => by
    have hp := hpl k hk; exact ⟨(r.hr.inU _ _ hp).1, fun h => (hdead k h).2 hk, r.places _ _ hp, (r.hr.inU _ _ hp).2, fun e => m.foot.2.1 (e ▸ ⟨id, hp⟩)⟩
  refine ⟨_, U, ρ, σ.heap.set id .dead, MO cx b (fun y => if eqI y x = true then ys else g y) (n + 1), run_u (by unfold execOp; rw [ho]) (by rw [e1, e2, e3]; exact hrun), r1, ⟨_, _, hmo, ?_⟩, hk⟩; have hne : ∀ {y}, ¬ eqI y x = true → y ≠ x := fun h e => h (by rw [e]; exact eqI_self x); refine ⟨heap_setBlock_same m.obj _, ⟨m.foot.1, fun h => m.foot.2.1 (hdead b h).1, m.foot.2.2⟩, fun y hy _ => ?_, fun y hy _ k hk => ?_, fun y z hy hz _ _ k h3 h4 => ?_⟩
  · by_cases he : eqI y x = true
    · rw [if_pos he, if_pos he]; exact ⟨cs, ownsRow_move h1 fun k hk => ag.block k (hxb k hk).2.2.2.1 (hxb k hk).2.2.2.2, h2.imp fun _ _ hc => hc.tr tr⟩
    · rw [if_neg he, if_neg he]; obtain ⟨cs, h3, h4⟩ := m.row y hy (hne he); exact ⟨cs, ownsRow_move h3 fun k hk => ag.block k (m.blk y hy (hne he) k hk).2.2.2.1 (m.blk y hy (hne he) k hk).2.2.2.2, h4.imp fun _ _ hc => hc.tr tr⟩
  · rw [hs]
    by_cases he : eqI y x = true
    · rw [if_pos he] at hk; exact hxb k hk
    · rw [if_neg he] at hk; have hb := m.blk y hy (hne he) k hk; exact ⟨hb.1, fun h => hb.2.1 (hdead k h).1, hb.2.2⟩
  · by_cases he : eqI y x = true <;> by_cases hf : eqI z x = true
    · rw [eqI_eq he, eqI_eq hf]
    · rw [if_pos he] at h3; rw [if_neg hf] at h4; exact absurd ⟨id, hpl k h3⟩ (m.blk z hz (hne hf) k h4).2.1
    · rw [if_neg he] at h3; rw [if_pos hf] at h4; exact absurd ⟨id, hpl k h4⟩ (m.blk y hy (hne he) k h3).2.1
    · rw [if_neg he] at h3; rw [if_neg hf] at h4; exact m.apart y z hy hz (hne he) (hne hf) k h3 h4
theorem LeG.read : LeG cx σ (MO cx b g n) σ (MR cx b g n) := fun a w ⟨U, ρ, r, o, v, hmo, m⟩ => by
  have r1 := r.less (U1 := fun k => U k ∧ ∀ x, okI x = true → (v x).ownBlock ≠ some k) (fun _ h => h.1) (fun j k hj => ⟨(r.hr.inU j k hj).1, fun x hx hk => (m.blk x hx trivial k hk).2.1 ⟨j, hj⟩⟩) fun k hk hu => by
    by_cases hq : ∃ x, okI x = true ∧ (v x).ownBlock = some k
    · obtain ⟨x, hx, hq⟩ := hq; exact .inr ((m.blk x hx trivial k hq).2.2.1.resolve_right (by omega))
    · exact .inl ⟨hu, fun x hx hk' => hq ⟨x, hx, hk'⟩⟩
  refine ⟨_, ρ, r1, o, v, hmo, m.obj, ⟨⟨m.foot.1, fun x hx hk => (m.blk x hx trivial b hk).2.2.2.2 rfl⟩, m.foot.2⟩, fun x hx => ?_⟩; obtain ⟨cs, h1, h2⟩ := m.row x hx trivial; exact KS.of_owns h1 h2 (fun _ _ h => h.1) fun k hk hu => hu.2 x hx hk
theorem StepG.lookup (hi : ops[i]? = some op) (ho : op.op = .lookup 130 tm tk false) (hg : op.guard = none) (hd : op.dst = some d) (hn : d < σ.n) (hm : σ.ev tm = .raw (.map (some b))) (ht : σ.ev tk = .agg (kIns.flat (f24 x))) (hx : okI x = true)
    (hk : K' { env := putE (some d) (.one (.row 112 kS (g x))) σ.env, heap := σ.heap, n := σ.n } (MR cx b g n)) : StepG Try.prog  ops cx i σ (MR cx b g n) K' := by
  refine StepG.raw hi hg (fun d' hd' => by rw [hd] at hd'; obtain rfl := Option.some.inj hd'; exact hn) fun a w U ρ r ⟨o, v, hmo, hobj, hft, hrow⟩ => ?_; have e1 := r.ev tm; rw [hm] at e1; have e1 : a.eval tm = .map (some b) := e1; have e2 := r.ev tk; rw [ht] at e2; obtain ⟨cs, e2, e3⟩ := e2; obtain rfl := insVal e3; have e2 : a.eval tk = keyV x := e2; exact ⟨v x, w, U, ρ, .one (.row 112 kS (g x)), σ.heap, MR cx b g n, run_v (by unfold execOp; rw [ho]) (by rw [e1, e2]; exact map_look hmo hobj hx), r, ⟨o, v, hmo, hobj, hft, hrow⟩, hrow x hx, by rw [hd]; exact hk⟩
theorem StepG.mapUpdate {ys : List kS.T} (hi : ops[i]? = some op) (ho : op.op = .mapUpdate 130 tm tk tv) (hg : op.guard = none) (hd : op.dst = none) (hm : σ.ev tm = .raw (.map (some b))) (ht : σ.ev tk = .agg (kIns.flat (f24 x))) (hv : σ.ev tv = .one (.row 112 kS ys)) (hx : okI x = true) (hn : n < maxLen)
    (hk : K' σ (MR cx b (fun y => if eqI y x = true then ys else g y) (n + 1))) : StepG Try.prog  ops cx i σ (MR cx b g n) K' := by
  refine StepG.rawU hi hg hd fun a w U ρ r ⟨o, v, hmo, hobj, hft, hrow⟩ => ?_; have e1 := r.ev tm; rw [hm] at e1; have e1 : a.eval tm = .map (some b) := e1; have e2 := r.ev tk; rw [ht] at e2; obtain ⟨cs, e2, e3⟩ := e2; obtain rfl := insVal e3; have e2 : a.eval tk = keyV x := e2; have e4 := r.ev tv; rw [hv] at e4; have e4 : KS U w (.row 112 kS) ys [a.eval tv] := e4; obtain ⟨es', clock', hrun, hmo'⟩ := map_upd hmo hobj hx hn (a.eval tv); obtain ⟨es, clock, ho2, _⟩ := hmo; subst ho2; have ag := set_agree hobj (.map es' clock'); have tr : Tr U w U (setBlock w b (.map es' clock')) := ⟨ag.mono fun k _ hk => by rw [hk]; exact hft.1, fun _ _ h => h⟩
  refine ⟨_, U, ρ, σ.heap, MR cx b (fun y => if eqI y x = true then ys else g y) (n + 1), run_u (by unfold execOp; rw [ho]) (by rw [e1, e2]; exact hrun), r.other ag (fun k hk _ => by rw [hk]; exact hft), ⟨_, _, hmo', heap_setBlock_same hobj _, hft, fun y hy => ?_⟩, hk⟩
  by_cases he : eqI y x = true
  · rw [if_pos he, show (fun y => if eqI y x = true then ys else g y) y = ys from if_pos he]; exact KS.tr (k := .row 112 kS) e4 tr
  · rw [if_neg he, show (fun y => if eqI y x = true then ys else g y) y = g y from if_neg he]; exact KS.tr (k := .row 112 kS) (hrow y hy) tr
end
end Go.Den
end
section
-- the texts that this claim needs, out of this session's and its print's (wip/shrink.py)
namespace Go.Den
open Go Go.RowKit
section
variable {P : Program} {cx : Cx} {σ : St} {M : Gh} {ops : Array Oper} {tb : Tb}
theorem WG.mono {c : Code} {Q Q' : Exit → St → Gh → Prop} (h : WG P cx c σ M Q) (hq : ∀ e σ' M', Q e σ' M' → Q' e σ' M') : WG P cx c σ M Q' := fun a w r => wp_mono (h a w r) fun e a' w' ⟨σ', M', h1, r'⟩ => ⟨σ', M', hq _ _ _ h1, r'⟩
theorem WG.seqTo {c y : Code} {Q : Exit → St → Gh → Prop} (σ1 : St) (M1 : Gh) (h : WG P cx c σ M (thenG Q fun σ' M' => LeG cx σ' M' σ1 M1)) (hk : WG P cx y σ1 M1 Q) : WG P cx (.seq c y) σ M Q :=
  WG.seq (h.mono fun e σ' M' he => by
    cases e with
    | normal => exact WG.le he hk
    | _ => exact he)
theorem WG.ordTo {id : Nat} {Q : Exit → St → Gh → Prop} (t : OT) (σ1 : St) (M1 : Gh) (hM : GhDrew M) (hm : P.follows .mixedOrders = true) (hc : (t.some_ && ((Region.ready .any ops (Array.replicate ops.size false)).all fun j => t.heads.any fun i => nb i j) && ordChk ops t (Array.replicate ops.size false) ops.size) = true)
    (hw : ordG P ops cx (fun σ' M' => LeG cx σ' M' σ1 M1) t σ M) (hk : Q .normal σ1 M1) : WG P cx (.region id ops true) σ M Q := fun a w r => by
  simp only [Bool.and_eq_true, List.all_eq_true, List.any_eq_true] at hc; obtain ⟨⟨h1, h2⟩, h3⟩ := hc; refine wp_region_any hm ?_
  exact (ordG_ok (cx := cx) (Q := fun e a' w' => ∃ σ' M', Q e σ' M' ∧ RG cx M' σ' a' w') (fun σ' M' a' w' hl r' => ⟨σ1, M1, hk, hl a' w' r'⟩) t).2 _ _ σ M a _ h3 (fun k hk => by
    obtain ⟨x, hx, he⟩ := h2 k hk
    rw [← nb_eq he]; exact hx) h1 hw (r.drew hM)
theorem RunG.dens {Q : Exit → St → Gh → Prop} (tok : TbOk P tb) (hM : GhOk M) {js is : List Nat} (n i : Nat) (hj : js = List.range' i n ++ is) (hs : nle (i + n) ops.size = true) (σ1 : St) (h : opsA P tb ops ((ops.toList.drop i).take n) σ (fun σ' => σ' = σ1)) (hk : RunG P ops cx is σ1 M Q) : RunG P ops cx js σ M Q := by
  subst hj; exact RunG.den tok hM σ1 hk n i σ (nle_le hs) h
end
attribute [simp] putE
end Go.Den
end
section
-- the texts that this claim needs, out of this session's and its print's (wip/shrink.py)
namespace Go.Den
open Go Go.RowKit
section
variable {P : Program} {tb : Tb} {ops : Array Oper} {σ : St}
theorem opW_mono {ow : Bool} {o : Oper} {K K' : S → List Blk → Prop} (hw : opW P tb ow o σ K) (h : ∀ s h1, K s h1 → K' s h1) : opW P tb ow o σ K' := by
  unfold opW at hw ⊢; split at hw
  · split at hw <;> try (exact hw.elim)
    obtain ⟨hg, s, h1, hs, hk⟩ := hw; exact ⟨hg, s, h1, hs, h _ _ hk⟩
  · split at hw <;> try (exact hw.elim)
    exact ⟨hw.1, hw.2.1, h _ _ hw.2.2⟩
theorem opG_mono {ow g : Bool} {o : Oper} {K K' : S → Prop} (hw : opG P tb ow o g σ K) (h : ∀ s, K s → K' s) : opG P tb ow o g σ K' := by
  unfold opG at hw ⊢; split at hw
  · split at hw <;> try (exact hw.elim)
    obtain ⟨s, hs, hk⟩ := hw; exact ⟨s, hs, h _ hk⟩
  · split at hw <;> try (exact hw.elim)
    exact ⟨hw.1, h _ hw.2⟩
theorem stepA_mono {ow : Bool} {o : Oper} {K K' : S → List Blk → Prop} (hw : stepA P tb ops ow o σ K) (h : ∀ s h1, K s h1 → K' s h1) : stepA P tb ops ow o σ K' := by
  unfold stepA at hw ⊢; split at hw
  · exact opW_mono hw h
  · split at hw <;> try (exact hw.elim)
    exact opG_mono hw fun s => h s _
theorem put_mono {d : Option Nat} {s : S} {h : List Blk} {K K' : St → Prop} (hk : σ.put d s h K) (hh : ∀ σ', K σ' → K' σ') : σ.put d s h K' := by
  unfold St.put at hk ⊢
  cases d with
  | none => exact hh _ hk
  | some d =>
    simp only [] at hk ⊢
    cases hd : nlt d σ.n with
    | false => rw [hd] at hk; exact hk.elim
    | true => rw [hd] at hk; exact hh _ hk
theorem segA_mono {K K' : St → Prop} (h : ∀ σ', K σ' → K' σ') : ∀ (l : List Oper) (σ : St), segA P tb ops l σ K → segA P tb ops l σ K'
  | [], σ, hw => h σ hw
  | o :: r, σ, hw => stepA_mono (K := fun s h1 => h1 = σ.heap ∧ σ.put o.dst s σ.heap fun σ' => segA P tb ops r σ' K) hw fun s h1 hk => ⟨hk.1, put_mono hk.2 fun σ' => segA_mono h r σ'⟩
theorem segs_cut {m : Nat} {ms : List Nat} {l : List Oper} {K : St → Prop} (σ1 : St) (hm : nb m 1 = false) (h : segA P tb ops (l.take m) σ fun σ' => σ' = σ1) (hk : segsW P tb ops ms (l.drop m) σ1 K) : segsW P tb ops (m :: ms) l σ K := by
  show bif nb m 1 then _ else segA P tb ops (l.take m) σ fun σ' => segsW P tb ops ms (l.drop m) σ' K
  rw [hm]; exact segA_mono (fun σ' e => by subst e; exact hk) _ _ h
end
end Go.Den
end
section
-- the texts that this claim needs, out of this session's and its print's (wip/shrink.py)
namespace Go.Den
open Go Go.RowKit Go.Proofs Go.Proofs.YtibfkkjkahpobaaW.PrintWords Go.Proofs.Ytibfkkjkahpobaa.PDag
structure PDone (may : Nat → Int → Bool) (n : Nat) (E : List S51) (c s : Int) (x : PSt) : Prop where
  good : PGood n c x
  low : ∀ i : Nat, i < n → 0 ≤ rd x.at_ i → rd x.at_ i < c ∨ (rd x.at_ i = c ∧ rd x.sl i < s)
  edge : ∀ e ∈ E, 0 ≤ rd x.at_ e.f1 → 0 ≤ rd x.at_ e.f0 ∧ rd x.at_ e.f0 + e.f2 ≤ rd x.at_ e.f1
  may : ∀ i : Nat, i < n → 0 ≤ rd x.at_ i → may i (rd x.sl i) = true
  apart : ∀ i j : Nat, i < n → j < n → 0 ≤ rd x.at_ i → rd x.at_ i = rd x.at_ j → rd x.sl i = rd x.sl j → i = j
section
variable {may : Nat → Int → Bool} {n : Nat} {E : List S51} {U H : List Int}
theorem slot_done (hf : PFine may n E) {c s : Int} {x : PSt} (h : PDone may n E c s x) (hc : 0 ≤ c) (hs : 0 ≤ s ∧ s ≤ 3) : PDone may n E c (s + 1) (slotStep may n E U H x (c, s)) := by
  have hg := slot_good (may := may) (E := E) (U := U) (H := H) h.good hc hs; unfold slotStep at hg ⊢; rcases bestUp_range (cand may E x.at_ c s) U H n with h1 | ⟨i, h1, h2, h3⟩
  · simp only [h1]; rw [if_neg (by omega)]; exact ⟨h.good, fun i hi h0 => by have := h.low i hi h0; omega, h.edge, h.may, h.apart⟩
  · simp only [h2] at hg ⊢; rw [if_pos (by omega), Int.toNat_natCast] at hg ⊢; unfold cand at h3; simp only [Bool.and_eq_true, decide_eq_true_eq] at h3; obtain ⟨hm, hlt, hr⟩ := h3; have ea : rd (x.at_.set i c) i = c := rd_same _ _ _ (by rw [h.good.len]; exact h1); have es : rd (x.sl.set i s) i = s := rd_same _ _ _ (by rw [h.good.len2]; exact h1); have oa : ∀ j : Nat, j ≠ i → rd (x.at_.set i c) j = rd x.at_ j := fun j hj => rd_other _ _ _ _ hj; have os : ∀ j : Nat, j ≠ i → rd (x.sl.set i s) j = rd x.sl j := fun j hj => rd_other _ _ _ _ hj; refine ⟨hg, ?_, ?_, ?_, ?_⟩ <;> dsimp only
    · intro j hj h0
      by_cases e : j = i
      · subst e; rw [ea, es]; omega
      · rw [oa j e] at h0 ⊢; rw [os j e]; have := h.low j hj h0; omega
    · intro e he h0; obtain ⟨a, t, e0, e1, hat, htn, d0, d1⟩ := hf.on e he; rw [e1] at h0; rw [e0, e1]
      by_cases et : t = i
      · subst et; have hra := List.all_eq_true.1 hr e he; rw [e0, e1] at hra; simp only [bne_self_eq_false, Bool.false_or, Bool.and_eq_true, decide_eq_true_eq] at hra; rw [ea, oa a (by omega)]; exact hra
      · rw [oa t et] at h0 ⊢; have := h.edge e he (by rw [e1]; exact h0); rw [e0, e1] at this; have hai : a ≠ i := fun hh => by rw [hh] at this; omega
        rw [oa a hai]; exact this
    · intro j hj h0
      by_cases e : j = i
      · subst e; rw [es]; exact hm
      · rw [oa j e] at h0; rw [os j e]; exact h.may j hj h0
    · intro j k hj hk h0 q1 q2
      by_cases ej : j = i
      · by_cases ek : k = i
        · rw [ej, ek]
        · exfalso; subst ej; rw [ea, oa k ek] at q1; rw [es, os k ek] at q2; have := h.low k hk (by omega); omega
      · by_cases ek : k = i
        · exfalso; subst ek; rw [ea, oa j ej] at q1; rw [es, os j ej] at q2; have := h.low j hj (by omega); omega
        · rw [oa j ej] at h0 q1; rw [oa k ek] at q1; rw [os j ej, os k ek] at q2; exact h.apart j k hj hk h0 q1 q2
theorem PDone.next {c : Int} {x : PSt} (h : PDone may n E c 4 x) : PDone may n E (c + 1) 0 x :=
  ⟨h.good.later (by omega), fun i hi h0 => by have := h.low i hi h0; omega, h.edge, h.may, h.apart⟩
theorem cyc_done (hf : PFine may n E) {c : Int} {x : PSt} (h : PDone may n E c 0 x) (hc : 0 ≤ c) : PDone may n E (c + 1) 0 (cycStep may n E U H x c) := by
  unfold cycStep four4; simp only [List.foldl_cons, List.foldl_nil]; exact (slot_done hf (s := 3) (slot_done hf (s := 2) (slot_done hf (s := 1) (slot_done hf (s := 0) h hc (by omega)) hc (by omega)) hc (by omega)) hc (by omega)).next
theorem run_doneP (hf : PFine may n E) : ∀ (f : Nat) (c : Int) (x : PSt), PDone may n E c 0 x → 0 ≤ c → ∃ d, PDone may n E d 0 (Go.Proofs.Ytibfkkjkahpobaa.PDag.runN may n E U H f c x)
  | 0, c, x, h, hc => ⟨c, h⟩
  | f + 1, c, x, h, hc => by
    rw [Go.Proofs.Ytibfkkjkahpobaa.PDag.runN]; split
    · exact run_doneP hf f (c + 1) _ (cyc_done hf h hc) (by omega)
    · exact ⟨c, h⟩
end
theorem x0_at (n i : Nat) (hi : i < n) : rd (x0F n).at_ i = -1 := rd_replicate n i _ hi
theorem cycF_done {l : List S24} (ho : okA l) : ∃ d, PDone (mayAt l) l.length (edges l) d 0 (cycF l) := by
  refine run_doneP (fine_of ho) _ 0 _ ⟨(good0 l.length).later (by omega), fun i hi h0 => ?_, fun e he h0 => ?_, fun i hi h0 => ?_, fun i j hi hj h0 _ _ => ?_⟩ (Int.le_refl _)
  · rw [x0_at _ _ hi] at h0; omega
  · obtain ⟨a, t, e0, e1, h1, h2⟩ := edges_range l _ _ e he; rw [e1, x0_at _ _ h2] at h0; omega
  · rw [x0_at _ _ hi] at h0; omega
  · rw [x0_at _ _ hi] at h0; omega
theorem cyc_time {l : List S24} (ho : okA l) (i : Nat) (hi : i < l.length) : rd (cycF l).at_ i + 4 ≤ 4 * (l.length : Int) := by
  have hf := fine_of ho; obtain ⟨f, hfe⟩ : ∃ f, 4 * l.length = f + 1 := ⟨4 * l.length - 1, by omega⟩
  have hl0 : (x0F l.length).left = (l.length : Int) := rfl
  have hless : (cycStep (mayAt l) l.length (edges l) (urges l) (heights l) (x0F l.length) 0).left < (x0F l.length).left := by
    obtain ⟨s, s0, s1, hm⟩ := hf.goes 0 (by omega); obtain ⟨ps, qs, hp⟩ := four_split s 0 s0 s1; unfold cycStep; rw [hp]; refine slots_less_at _ qs _ _ 0 (by omega) ?_; unfold cand; rw [hm, Bool.true_and, show decide (rd (x0F l.length).at_ ((0 : Nat) : Int) < 0) = true from decide_eq_true (by rw [x0_at _ _ (by omega)]; omega), Bool.true_and]; unfold rdy; rw [List.all_eq_true]; intro e he; obtain ⟨a, t, e0, e1, h1, h2⟩ := edges_range l _ _ e he; have : (e.f1 != ((0 : Nat) : Int)) = true := by simp; omega
    rw [this]; rfl
  have hg : PGood l.length (1 - 1) (cycStep (mayAt l) l.length (edges l) (urges l) (heights l) (x0F l.length) 0) := cyc_good ((good0 l.length).later (by omega)) (Int.le_refl _); have h := run_ends (U := urges l) (H := heights l) hf (l.length - 1) 1 _ hg (by omega) (by omega) f (by omega)
  have hc : cycF l = Go.Proofs.Ytibfkkjkahpobaa.PDag.runN (mayAt l) l.length (edges l) (urges l) (heights l) f 1 (cycStep (mayAt l) l.length (edges l) (urges l) (heights l) (x0F l.length) 0) := by
    unfold cycF; rw [hfe, Go.Proofs.Ytibfkkjkahpobaa.PDag.runN, if_pos (by rw [hl0]; omega)]; rfl
  rw [hc]; have := (h.2.up i hi).2; omega
theorem longUp_le (l : List S24) (at_ : List Int) (M : Int) (hM : 0 ≤ M) (h0 : ∀ j : Nat, j < l.length → 0 ≤ rd at_ j ∧ rd at_ j ≤ 799) (h : ∀ j : Nat, j < l.length → rd at_ j + 4 ≤ M) : ∀ n, n ≤ l.length → longUp l at_ n ≤ M
  | 0, _ => hM
  | n + 1, hn => by
    have ih := longUp_le l at_ M hM h0 h n (by omega); have h1 := h0 n (by omega); have h2 := h n (by omega); have h3 := late_range (J24 l n).f0; rw [longUp, wrapS _ (by omega) (by omega)]; have hm := mx_ge (longUp l at_ n) (rd at_ n + lateOp (J24 l n).f0); omega
theorem steps_le (x y : S24) (c n M : Int) (h0 : 0 ≤ c) (h1 : c ≤ 799) (hn : n ≤ M) (hc : c + 4 ≤ M) : step3 x y c (step2 x y c (step1 x y c n)) ≤ M := by
  have hl := late_range y.f0
  have a1 : step1 x y c n ≤ M := by
    unfold step1; rw [wrapS _ (by omega) (by omega)]; split
    · have := mx_ge n (c + lateOp y.f0); omega
    · omega
  generalize step1 x y c n = m1 at a1
  have a2 : step2 x y c m1 ≤ M := by
    unfold step2; rw [wrapS _ (by omega) (by omega)]; split
    · have := mx_ge m1 (c + 1); omega
    · omega
  generalize step2 x y c m1 = m2 at a2; unfold step3; rw [wrapS (c - 2) (by omega) (by omega), wrapS (c + lateOp y.f0) (by omega) (by omega), wrapS (c + lateOp y.f0 - 2) (by omega) (by omega), wrapS (c + lateOp y.f0 - 2 - 1) (by omega) (by omega)]; split
  · omega
  · have h1 := mx_ge m2 (c - 2); have h2 := mx_ge (mx m2 (c - 2)) (c + lateOp y.f0 - 2 - 1); omega
theorem steps_late (x y : S24) (c n : Int) (h0 : 0 ≤ c) (h1 : c ≤ 799) (hx : x.f0 ≠ 33) : c + lateOp y.f0 - 3 ≤ step3 x y c n := by
  have hl := late_range y.f0; unfold step3; rw [wrapS (c - 2) (by omega) (by omega), wrapS (c + lateOp y.f0) (by omega) (by omega), wrapS (c + lateOp y.f0 - 2) (by omega) (by omega), wrapS (c + lateOp y.f0 - 2 - 1) (by omega) (by omega), if_neg hx]; have h2 := mx_ge (mx n (c - 2)) (c + lateOp y.f0 - 2 - 1); omega
section
variable (x : S24) (l : List S24) (at_ : List Int)
theorem lastUp_le (M : Int) (hat : ∀ i : Nat, i < l.length → 0 ≤ rd at_ i ∧ rd at_ i ≤ 799) (h : ∀ j : Nat, j < l.length → rd at_ j + 4 ≤ M) : ∀ (d i : Nat) (n : Int), i + d = l.length → n ≤ M → lastUp l at_ x d i n ≤ M
  | 0, i, n, hi, hn => hn
  | d + 1, i, n, hi, hn => by
    have hc := hat i (by omega); exact lastUp_le M hat h d (i + 1) _ (by omega) (steps_le x _ _ n M hc.1 hc.2 hn (h i (by omega)))
theorem lastUp_late (hx : x.f0 ≠ 33) (hat : ∀ i : Nat, i < l.length → 0 ≤ rd at_ i ∧ rd at_ i ≤ 799) : ∀ (d i : Nat) (n : Int), i + d = l.length → 0 ≤ n → n ≤ 900 → ∀ j : Nat, i ≤ j → j < l.length → rd at_ j + lateOp (J24 l j).f0 - 3 ≤ lastUp l at_ x d i n
  | 0, i, n, hi, h0, h9, j, h1, h2 => by omega
  | d + 1, i, n, hi, h0, h9, j, h1, h2 => by
    have hc := hat i (by omega); have hs := steps_bd x (J24 l i) (rd at_ i) n hc.1 hc.2 h0 h9; rw [lastUp]
    by_cases e : j = i
    · subst e; have h3 := (lastUp_bd x l at_ hat d (j + 1) _ (by omega) (by omega) hs.1.2).1.1; have h4 := steps_late x (J24 l j) (rd at_ j) (step2 x (J24 l j) (rd at_ j) (step1 x (J24 l j) (rd at_ j) n)) hc.1 hc.2 hx; omega
    · exact lastUp_late hx hat d (i + 1) _ (by omega) (by omega) hs.1.2 j (by omega) h2
end
theorem freeFrom_le (at_ sl : List Int) (n : Nat) (M : Int) (hM : ∀ i : Nat, i < n → rd at_ i ≤ M) : ∀ (f : Nat) (c : Int), freeFrom at_ sl n f c ≤ c ∨ freeFrom at_ sl n f c ≤ M + 1
  | 0, c => by rw [freeFrom]; omega
  | f + 1, c => by
    rw [freeFrom]; split
    · rename_i ht
      obtain ⟨j, h1, h2, _⟩ := takenUp_mem _ _ _ _ _ ht; have := hM j h1; have := freeFrom_le at_ sl n M hM f (c + 1); omega
    · omega
theorem takenUp_of (at_ sl : List Int) (c s : Int) : ∀ (n j : Nat), j < n → rd at_ j = c → rd sl j = s → takenUp at_ sl c s n = true
  | n + 1, j, hj, h1, h2 => by
    rw [takenUp, Bool.or_eq_true]
    by_cases e : j = n
    · subst e; right; simp [h1, h2]
    · left; exact takenUp_of at_ sl c s n j (by omega) h1 h2
structure EndOk (l : List S24) (x : S24) : Prop where
  few : (endC l x).2 ≤ 4 * ((l.length : Int) + if x.f0 = 0 then 0 else 1)
  none : x.f0 = 0 → (endC l x).1 = -1
  some : x.f0 ≠ 0 → 0 ≤ (endC l x).1 ∧ (endC l x).1 < (endC l x).2 ∧ (endC l x).1 = (endC l x).2 - 1 - if x.f0 = 33 then 0 else 2
  free : ∀ j : Nat, j < l.length → rd (cycF l).at_ j = (endC l x).1 → rd (cycF l).sl j ≠ 0
  late : x.f0 ≠ 33 → ∀ j : Nat, j < l.length → rd (cycF l).at_ j + lateOp (J24 l j).f0 ≤ (endC l x).2
  halt : x.f0 = 33 → ∀ j : Nat, j < l.length → rd (cycF l).at_ j < (endC l x).1
theorem endC_ok {l : List S24} (ho : okA l) (hn : l.length ≤ 200) (x : S24) : EndOk l x := by
  have hat : ∀ i : Nat, i < l.length → 0 ≤ rd (cycF l).at_ i ∧ rd (cycF l).at_ i ≤ 799 := fun i hi => (cyc_in ho hn i hi).1; have htime : ∀ i : Nat, i < l.length → rd (cycF l).at_ i + 4 ≤ 4 * (l.length : Int) := fun i hi => cyc_time ho i hi
  by_cases h : x.f0 = 0
  · have e : endC l x = (-1, longUp l (cycF l).at_ l.length) := by unfold endC; rw [if_pos h]
    refine ⟨?_, ?_, ?_, ?_, ?_, ?_⟩ <;> rw [e] <;> dsimp only
    · rw [if_pos h]; have := longUp_le l (cycF l).at_ (4 * (l.length : Int)) (by omega) hat htime l.length (Nat.le_refl _); omega
    · exact fun _ => rfl
    · exact fun hx => absurd h hx
    · intro j hj h1; have := hat j hj; omega
    · exact fun _ j hj => (longUp_bd l (cycF l).at_ hat l.length (Nat.le_refl _)).2.2 j hj
    · intro h3; omega
  · have hL := lastOf_bd x l (cycF l).at_ hat
    have hLe : lastOf l x (cycF l).at_ ≤ 4 * (l.length : Int) := by
      unfold lastOf; rw [if_neg h]; exact lastUp_le x l _ _ hat htime _ _ _ (by omega) (by omega)
    have hfr := freeFrom_free (cycF l).at_ (cycF l).sl l.length 799 (fun i hi => (hat i hi).2) 1000 (lastOf l x (cycF l).at_) (by omega); have hge := freeFrom_ge (cycF l).at_ (cycF l).sl l.length 1000 (lastOf l x (cycF l).at_); have hle := freeFrom_le (cycF l).at_ (cycF l).sl l.length (4 * (l.length : Int) - 4) (fun i hi => by have := htime i hi; omega) 1000 (lastOf l x (cycF l).at_); have hgl := fun j hj => lastOf_ge x l (cycF l).at_ h hat j hj
    have hlate : x.f0 ≠ 33 → ∀ j : Nat, j < l.length → rd (cycF l).at_ j + lateOp (J24 l j).f0 - 3 ≤ lastOf l x (cycF l).at_ := fun hx j hj => by
      unfold lastOf; rw [if_neg h]; exact lastUp_late x l _ hx hat _ 0 0 (by omega) (by omega) (by omega) j (Nat.zero_le _) hj
    have e : endC l x = (freeFrom (cycF l).at_ (cycF l).sl l.length 1000 (lastOf l x (cycF l).at_), if x.f0 = 33 then freeFrom (cycF l).at_ (cycF l).sl l.length 1000 (lastOf l x (cycF l).at_) + 1 else freeFrom (cycF l).at_ (cycF l).sl l.length 1000 (lastOf l x (cycF l).at_) + 1 + 2) := by unfold endC; rw [if_neg h]
    generalize freeFrom (cycF l).at_ (cycF l).sl l.length 1000 (lastOf l x (cycF l).at_) = t at e hfr hge hle; refine ⟨?_, ?_, ?_, ?_, ?_, ?_⟩ <;> rw [e] <;> dsimp only
    · rw [if_neg h]; split <;> omega
    · exact fun hx => absurd hx h
    · intro _; split <;> omega
    · intro j hj h1 h2; rw [takenUp_of _ _ _ _ _ j hj h1 h2] at hfr; cases hfr
    · intro h3 j hj; rw [if_neg h3]; have := hlate h3 j hj; omega
    · intro h3 j hj; have := (hgl j hj).1 h3; omega
end Go.Den
end
section
-- the texts that this claim needs, out of this session's and its print's (wip/shrink.py)
namespace Go.Den
open Go Go.RowKit Go.Proofs Go.Proofs.YtibfkkjkahpobaaW.PrintWords Go.Proofs.Ytibfkkjkahpobaa.PDag
theorem o59 (x : S24) : CallStep Try.prog 63 [.agg (kIns.flat (f24 x))] [] (.one (.bool (okI x))) [] := by
  refine CallStep.mk1 ⟨_, _, Try.func63, by kernel_rfl, rfl⟩ fun U ρ w vs ha => ?_; obtain ⟨v, rfl, hv⟩ := vs1 ha; obtain ⟨cs, rfl, h1⟩ := hv; obtain rfl := insVal h1; refine Calls.mono (isa_IsIns.calls 50 _ _ _ _ _ _ _ w (isa_ins_eq (Nat.le_refl _) x.f0 x.f1 x.f2 x.f3 x.f4 x.f5)) ?_; rintro e w' ⟨rfl, hB⟩; exact ⟨_, rfl, hB, fun U1 hU => rfl⟩
theorem o33 (l : List S24) (hl : l.length ≤ 1000000000) : CallStep Try.prog 55 [.one (.row 24 kIns (l.map f24))] [] (.one (.bool (mayL l))) [] := by
  refine CallStep.mk1 ⟨_, _, Try.func55, by kernel_rfl, rfl⟩ fun U ρ w vs ha => ?_; obtain ⟨v, rfl, hv⟩ := vs1 ha; obtain ⟨A, c, rfl, b1, b2⟩ := br24.argRow (e := 24) (xs := l) hv; refine Calls.mono (dag_May.calls 300 A c l _ w b2 b1 (may_eq l hl (Nat.le_refl _))) ?_; rintro e w' ⟨rfl, hB⟩; exact ⟨_, rfl, hB, fun U1 hU => rfl⟩
theorem o51 (op s : Int) (h0 : 0 ≤ op ∧ op ≤ 33) (hs : 0 ≤ s ∧ s ≤ 3) : CallStep Try.prog 87 [.one (.int .i64 op), .one (.int .i64 s)] [] (.one (.bool (mayOp op s))) [] := by
  refine CallStep.mk1 ⟨_, _, Try.func87, by kernel_rfl, rfl⟩ fun U ρ w vs ha => ?_; obtain ⟨v1, v2, rfl, hv, hv2⟩ := vs2 ha; obtain rfl : v1 = .int .i64 op := hv; obtain rfl : v2 = .int .i64 s := hv2; refine Calls.mono (isa_May.calls 10 op s _ w (may_op_eq (Nat.le_refl _) op s h0.1 h0.2 hs.1 hs.2)) ?_; rintro e w' ⟨rfl, hB⟩; exact ⟨_, rfl, hB.below, fun U1 hU => rfl⟩
theorem br100 : Br k51 kE f100 (fun y => ⟨y.1, y.2.1, y.2.2.1⟩) := Br.iso (Br.pair (Br.int .i64) (Br.pair (Br.int .i64) (Br.last (Br.int .i64)))) (fun x : S51 => (x.f0, x.f1, x.f2)) (fun y => ⟨y.1, y.2.1, y.2.2⟩) (fun _ => rfl) (fun _ => rfl)
theorem o52 (l : List S24) (hn : l.length ≤ 200) (ho : okA l) : CallStep Try.prog 56 [.one (.row 24 kIns (l.map f24))] [] (.one (.row 51 kE ((edges l).map f100))) [] := by
  refine CallStep.mk1 ⟨_, _, Try.func56, by kernel_rfl, rfl⟩ fun U ρ w vs ha => ?_; obtain ⟨v, rfl, hv⟩ := vs1 ha; obtain ⟨A, c, rfl, b1, b2⟩ := br24.argRow (e := 24) (xs := l) hv; refine Calls.mono (dag_Edges.calls 50000 A c l _ w b2 b1 (own_edges l hn (okA_L ho) (Nat.le_refl _))) ?_; rintro e w' ⟨v0, rfl, hR, hB⟩; exact ⟨_, rfl, hB, fun U1 hU => br100.madeRow (base := w.heap.size) hR fun a h1 h2 h3 => by have := hU a h3; omega⟩
theorem o49 (c : List S81) : CallStep Try.prog 85 [.one (.row 81 kBun (c.map f62))] [] (.one (.bool (wholeL c))) [] := by
  have hL : (c.map f62).length = c.length := List.length_map ..; refine CallStep.intro' (n := 25) (n0 := 0) (rs := [.tmp 2]) tb_ok Try.func85 (by kernel_rfl) rfl rfl rfl rfl rfl fun cx hcx => ?_; refine W.sO tb_ok ?_; refine W.rowLen 0 rfl fun hlen => ?_; refine W.seq ?_; refine W.sO tb_ok ?_; refine W.block (W.loop (fun i : Nat => ⟨[(9, .one (.int .i64 i)), (8, .one (.int .i64 ((c.map f62).length : Int))), (7, .one (.row 81 kBun (c.map f62))), (0, .one (.row 81 kBun (c.map f62)))], [], 25⟩) (fun i => c.length - i) (fun i => i ≤ c.length ∧ ∀ j : Nat, j < i → bunB (J81 c j) = true) 0 ⟨Nat.zero_le _, fun j h => absurd h (Nat.not_lt_zero _)⟩ (Le.to [] hcx rfl ⟨rfl, rfl, rfl, rfl, rfl, rfl⟩) fun i hi => ?_); obtain ⟨hi, hp⟩ := hi; refine W.sO tb_ok ?_; refine W.seq ?_; refine W.if_ _ rfl (fun e => W.skip ?_) (fun e => W.exit ?_)
  case refine_2 =>
    have e1 := of_decide_eq_false e; refine W.sO tb_ok ?_; refine W.ret (endL1 (tb := tb) (n0 := 0) ?_ rfl rfl rfl); refine congrArg (fun b => S.one (C.bool b)) ?_; unfold wholeL; rw [whole_all fun j hj => hp j (by omega), Bool.and_true]; exact decide_eq_decide.2 (by rw [hL]; omega)
  have e1 : i < c.length := by have := of_decide_eq_true e; omega
  have hy := atB c i e1; refine W.seq (W.block ?_); refine W.sO tb_ok ?_; refine W.sO tb_ok ?_; generalize (c.map f62).getD i (K.zero kBun) = bb at hy ⊢; refine W.block (W.loop (fun k : Nat => ⟨[(14, .one (.int .i64 k)), (13, .agg (kBun.flat bb)), (9, .one (.int .i64 i)), (8, .one (.int .i64 ((c.map f62).length : Int))), (7, .one (.row 81 kBun (c.map f62))), (0, .one (.row 81 kBun (c.map f62)))], [], 25⟩) (fun k => 4 - k) (fun k => k ≤ 4 ∧ slotsB (J81 c i) k = true) 0 ⟨Nat.zero_le _, rfl⟩ (Le.to [] hcx rfl ⟨rfl, rfl, rfl, rfl, rfl, rfl, rfl, rfl⟩) fun k hk => ?_); obtain ⟨hk, hs⟩ := hk; refine W.sO tb_ok ?_; refine W.seq ?_; refine W.if_ _ rfl (fun e3 => W.skip ?_) (fun e3 => W.exit ?_)
  case refine_2 =>
    have e4 : k = 4 := by have := of_decide_eq_false e3; omega
    subst e4; refine W.rO tb_ok ?_; refine ⟨i + 1, ⟨e1, fun j hj => ?_⟩, Le.to [] hcx rfl ⟨?_, rfl, rfl, rfl, rfl, rfl⟩, by omega⟩
    · rcases Nat.eq_or_lt_of_le (Nat.le_of_lt_succ hj) with h | h
      · rw [h]; rw [← hs]; show _ = ((List.range 4).all fun j => okI (slotB (J81 c i) j)); show _ = (okI _ && (okI _ && (okI _ && (okI _ && true)))); rw [Bool.and_true]; rfl
      · exact hp j h
    · show S.ren _ (S.one (.int .i64 (IntKind.i64.wrap (↑i + 1)))) = _; rw [IntWalk.i64_in _ (by omega)]; rfl
  have e4 : k < 4 := by have := of_decide_eq_true e3; omega
  have hnx : slotsB (J81 c i) (k + 1) = (slotsB (J81 c i) k && okI (slotB (J81 c i) k)) := by unfold slotsB; rw [List.range_succ, List.all_append]; simp
  refine W.seq (W.block ?_); have e5 : k = 0 ∨ k = 1 ∨ k = 2 ∨ k = 3 := by omega
  rcases e5 with rfl | rfl | rfl | rfl
  · have h59 := o59 (g24 bb.1); rw [show okI (g24 bb.1) = okI (slotB (J81 c i) 0) by rw [hy]; rfl] at h59; refine W.sO tb_ok ?_; refine W.sO tb_ok ?_; refine W.if_ _ rfl (fun e6 => ?_) (fun e6 => W.skip ?_)
    · have e7 : okI (slotB (J81 c i) 0) = false := by rw [← Bool.not_eq_true']; exact e6
      have e8 : bunB (J81 c i) = false := by
        have e7 : okI (J81 c i).f0 = false := e7; unfold bunB; rw [e7]; simp
      rw [show wholeL c = false by unfold wholeL; rw [whole_at e1 e8, Bool.and_false]]; refine W.sO tb_ok ?_; exact W.ret (endL1 (tb := tb) (n0 := 0) rfl rfl rfl rfl)
    · have e7 : okI (slotB (J81 c i) 0) = true := by rw [← Bool.not_eq_false']; exact e6
      refine W.rO tb_ok ?_; refine ⟨1, ⟨by omega, by rw [hnx, hs, e7]; rfl⟩, Le.to [] hcx rfl ⟨?_, rfl, rfl, rfl, rfl, rfl, rfl, rfl⟩, by omega⟩; show S.ren _ (S.one (.int .i64 (IntKind.i64.wrap _))) = _; rw [IntWalk.i64_in _ (by omega)]; rfl
  · have h59 := o59 (g24 bb.2.1); rw [show okI (g24 bb.2.1) = okI (slotB (J81 c i) 1) by rw [hy]; rfl] at h59; refine W.sO tb_ok ?_; refine W.sO tb_ok ?_; refine W.if_ _ rfl (fun e6 => ?_) (fun e6 => W.skip ?_)
    · have e7 : okI (slotB (J81 c i) 1) = false := by rw [← Bool.not_eq_true']; exact e6
      have e8 : bunB (J81 c i) = false := by
        have e7 : okI (J81 c i).f1 = false := e7; unfold bunB; rw [e7]; simp
      rw [show wholeL c = false by unfold wholeL; rw [whole_at e1 e8, Bool.and_false]]; refine W.sO tb_ok ?_; exact W.ret (endL1 (tb := tb) (n0 := 0) rfl rfl rfl rfl)
    · have e7 : okI (slotB (J81 c i) 1) = true := by rw [← Bool.not_eq_false']; exact e6
      refine W.rO tb_ok ?_; refine ⟨2, ⟨by omega, by rw [hnx, hs, e7]; rfl⟩, Le.to [] hcx rfl ⟨?_, rfl, rfl, rfl, rfl, rfl, rfl, rfl⟩, by omega⟩; show S.ren _ (S.one (.int .i64 (IntKind.i64.wrap _))) = _; rw [IntWalk.i64_in _ (by omega)]; rfl
  · have h59 := o59 (g24 bb.2.2.1); rw [show okI (g24 bb.2.2.1) = okI (slotB (J81 c i) 2) by rw [hy]; rfl] at h59; refine W.sO tb_ok ?_; refine W.sO tb_ok ?_; refine W.if_ _ rfl (fun e6 => ?_) (fun e6 => W.skip ?_)
    · have e7 : okI (slotB (J81 c i) 2) = false := by rw [← Bool.not_eq_true']; exact e6
      have e8 : bunB (J81 c i) = false := by
        have e7 : okI (J81 c i).f2 = false := e7; unfold bunB; rw [e7]; simp
      rw [show wholeL c = false by unfold wholeL; rw [whole_at e1 e8, Bool.and_false]]; refine W.sO tb_ok ?_; exact W.ret (endL1 (tb := tb) (n0 := 0) rfl rfl rfl rfl)
    · have e7 : okI (slotB (J81 c i) 2) = true := by rw [← Bool.not_eq_false']; exact e6
      refine W.rO tb_ok ?_; refine ⟨3, ⟨by omega, by rw [hnx, hs, e7]; rfl⟩, Le.to [] hcx rfl ⟨?_, rfl, rfl, rfl, rfl, rfl, rfl, rfl⟩, by omega⟩; show S.ren _ (S.one (.int .i64 (IntKind.i64.wrap _))) = _; rw [IntWalk.i64_in _ (by omega)]; rfl
  · have h59 := o59 (g24 bb.2.2.2.1); rw [show okI (g24 bb.2.2.2.1) = okI (slotB (J81 c i) 3) by rw [hy]; rfl] at h59; refine W.sO tb_ok ?_; refine W.sO tb_ok ?_; refine W.if_ _ rfl (fun e6 => ?_) (fun e6 => W.skip ?_)
    · have e7 : okI (slotB (J81 c i) 3) = false := by rw [← Bool.not_eq_true']; exact e6
      have e8 : bunB (J81 c i) = false := by
        have e7 : okI (J81 c i).f3 = false := e7; unfold bunB; rw [e7]; simp
      rw [show wholeL c = false by unfold wholeL; rw [whole_at e1 e8, Bool.and_false]]; refine W.sO tb_ok ?_; exact W.ret (endL1 (tb := tb) (n0 := 0) rfl rfl rfl rfl)
    · have e7 : okI (slotB (J81 c i) 3) = true := by rw [← Bool.not_eq_false']; exact e6
      refine W.rO tb_ok ?_; refine ⟨4, ⟨by omega, by rw [hnx, hs, e7]; rfl⟩, Le.to [] hcx rfl ⟨?_, rfl, rfl, rfl, rfl, rfl, rfl, rfl⟩, by omega⟩; show S.ren _ (S.one (.int .i64 (IntKind.i64.wrap _))) = _; rw [IntWalk.i64_in _ (by omega)]; rfl
end Go.Den
end
section
-- the texts that this claim needs, out of this session's and its print's (wip/shrink.py)
namespace Go.Den
open Go Go.RowKit Go.Proofs Go.Proofs.YtibfkkjkahpobaaW.PrintWords Go.Proofs.Ytibfkkjkahpobaa.PDag
theorem at100 (E : List S51) (q : Nat) (h : q < E.length) : (E.map f100).getD q (K.zero kE) = f100 E[q] := by
  rw [List.getD_eq_getElem?_getD, List.getElem?_map, List.getElem?_eq_getElem h]; rfl
section
variable {m : Int → Int → Int} {val : S51 → Int → Int} {l : List S24} {i q : Nat} {h : List Int}
end
end Go.Den
end
section
-- the texts that this claim needs, out of this session's and its print's (wip/shrink.py)
namespace Go.Den
open Go Go.RowKit Go.Proofs Go.Proofs.YtibfkkjkahpobaaW.PrintWords Go.Proofs.Ytibfkkjkahpobaa.PDag
def rowS (n : Nat) (b : S81) (k : Nat) : List (Nat × Nat × S24) := (List.range k).filterMap fun s => if (slotB b s).f0 == 0 then none else some (n, s, slotB b s)
theorem rowS_succ (n : Nat) (b : S81) (k : Nat) : rowS n b (k + 1) = rowS n b k ++ (if (slotB b k).f0 == 0 then [] else [(n, k, slotB b k)]) := by
  unfold rowS; rw [List.range_succ, List.filterMap_append]; congr 1; rw [List.filterMap_cons]; split <;> rename_i h
  · split at h
    · rename_i h0; rw [if_pos h0]; rfl
    · cases h
  · split at h
    · cases h
    · rename_i h0; rw [if_neg h0]; obtain rfl := Option.some.inj h; rfl
def slTo (c : List S81) (n : Nat) : List (Nat × Nat × S24) := (List.range n).flatMap fun i : Nat => rowS i (J81 c i) 4
def slK (c : List S81) (n k : Nat) : List (Nat × Nat × S24) := slTo c n ++ rowS n (J81 c n) k
theorem slTo_succ (c : List S81) (n : Nat) : slTo c (n + 1) = slK c n 4 := by
  unfold slK slTo; rw [List.range_succ, List.flatMap_append]; simp
theorem slK_succ (c : List S81) (n k : Nat) : slK c n (k + 1) = slK c n k ++ (if (slotB (J81 c n) k).f0 == 0 then [] else [(n, k, slotB (J81 c n) k)]) := by
  unfold slK; rw [rowS_succ, List.append_assoc]
theorem slK_zero (c : List S81) (n : Nat) : slK c n 0 = slTo c n := by unfold slK rowS; simp
theorem slTo_mem (c : List S81) (n : Nat) : ∀ t ∈ slTo c n, t.1 < n := by
  intro t ht; unfold slTo at ht; obtain ⟨i, hi, h⟩ := List.mem_flatMap.1 ht; unfold rowS at h; obtain ⟨s, _, hs⟩ := List.mem_filterMap.1 h; split at hs
  · cases hs
  · obtain rfl := Option.some.inj hs; exact List.mem_range.1 hi
theorem whole_slot {c : List S81} (h : wholeL c = true) (n s : Nat) (hn : n < c.length) (hs : s < 4) : okI (slotB (J81 c n) s) = true := by
  unfold wholeL at h; simp only [Bool.and_eq_true, List.all_eq_true] at h; have := h.2 (J81 c n) (by rw [show J81 c (n : Int) = c[n] by unfold J81; rw [Int.toNat_natCast, List.getD_eq_getElem?_getD, List.getElem?_eq_getElem hn]; rfl]; exact List.getElem_mem hn); unfold bunB at this; simp only [Bool.and_eq_true] at this; have h4 : s = 0 ∨ s = 1 ∨ s = 2 ∨ s = 3 := by omega
  rcases h4 with rfl | rfl | rfl | rfl
  · exact this.1
  · exact this.2.1
  · exact this.2.2.1
  · exact this.2.2.2
end Go.Den
end
