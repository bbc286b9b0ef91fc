import Derived.Test.YtibfkkjkahpobaaGreatOf32
import Derived.Test.YtibfkkjkahpobaaGreatOf1
import Derived.Test.YtibfkkjkahpobaaGreatOf15
import Derived.Test.YtibfkkjkahpobaaGreatOf22
import Derived.Test.YtibfkkjkahpobaaGreatOf20
import Derived.Test.YtibfkkjkahpobaaGreatOf26
import Derived.WideMake
import Derived.Test.YtibfkkjkahpobaaGreatOf27
import Derived.Maps.OwnOps
import Derived.Maps.OwnSet
import Derived.Maps.Views
import Derived.Test.YtibfkkjkahpobaaGreatOf28
import Derived.Test.YtibfkkjkahpobaaGreatOf21
import Derived.Test.YtibfkkjkahpobaaGreatOf23
set_option linter.unusedVariables false
set_option linter.unusedSimpArgs false
set_option maxHeartbeats 8000000
set_option maxRecDepth 100000
open Go.RowKit Go.Proofs.YtibfkkjkahpobaaGreatW.PrintWords Go.Proofs.YtibfkkjkahpobaaGreatW.PrintLast Go.Proofs.YtibfkkjkahpobaaGreatW.PrintMore
section
-- the texts that this claim needs, out of this session's and its print's (wip/shrink.py)
namespace Go.Den
open Go Go.RowKit
inductive OT where
  | done
  | none
  | alt (i : Nat) (t r : OT)
def OT.heads : OT → List Nat
  | .alt i _ r => i :: r.heads
  | _ => []
def OT.some_ : OT → Bool
  | .none => false
  | _ => true
def ordChk (ops : Array Oper) : OT → Array Bool → Nat → Bool
  | .alt i t r, l, n => match n with
    | 0 => false
    | m + 1 => !(Region.ready .any ops l).isEmpty && t.some_ && ((Region.ready .any ops (l.setIfInBounds i true)).all fun j => t.heads.any fun i => nb i j) && ordChk ops t (l.setIfInBounds i true) m && ordChk ops r l (m + 1)
  | _, _, _ => true
def ordW (P : Program) (tb : Tb) (ops : Array Oper) (K : St → Prop) : OT → St → Prop
  | .done, σ => K σ
  | .none, _ => True
  | .alt i t r, σ => (match ops[i]? with
    | some o => stepA P tb ops false o σ fun s h1 => σ.put o.dst s h1 fun σ' => ordW P tb ops K t σ'
    | none => False) ∧ ordW P tb ops K r σ
section
variable {P : Program} {cx : Cx} {σ : St} {ops : Array Oper} {tb : Tb} {Q : Exit → Act → World → Prop}
theorem ord_ok (tok : TbOk P tb) {K : St → Prop} (hQ : ∀ σ' a' w', K σ' → R cx σ' a' w' → Q .normal a' w') : ∀ (t : OT),
    (∀ n listed σ a w j, ordChk ops t listed (n + 1) = true → ordW P tb ops K t σ → R cx σ a w → j ∈ t.heads → wpOp P ops Q j (fun a' w' => wpAny P .any ops Q n (listed.setIfInBounds j true) a' w') a w) ∧
    (∀ n listed σ a w, ordChk ops t listed n = true → (∀ j ∈ Region.ready .any ops listed, j ∈ t.heads) → t.some_ = true → ordW P tb ops K t σ → R cx σ a w → wpAny P .any ops Q n listed a w)
  | .done => ⟨fun _ _ _ _ _ j _ _ _ hj => by simp [OT.heads] at hj, fun n listed σ a w _ hr _ hw r => by
      refine wpAny_done ?_ (hQ σ a w hw r) _
      cases he : Region.ready .any ops listed with
      | nil => rfl
      | cons i t => exact absurd (hr i (by rw [he]; simp)) (by simp [OT.heads])⟩
  | .none => ⟨fun _ _ _ _ _ j _ _ _ hj => by simp [OT.heads] at hj, fun _ _ _ _ _ _ _ h => by cases h⟩
  | .alt i t r => by
    have hA : ∀ n listed σ a w j, ordChk ops (.alt i t r) listed (n + 1) = true → ordW P tb ops K (.alt i t r) σ → R cx σ a w → j ∈ (OT.alt i t r).heads → wpOp P ops Q j (fun a' w' => wpAny P .any ops Q n (listed.setIfInBounds j true) a' w') a w := by
      intro n listed σ a w j hc hw hr hj; unfold ordChk at hc; simp only [Bool.and_eq_true, List.all_eq_true, List.any_eq_true] at hc; obtain ⟨⟨⟨⟨_, h1⟩, h2⟩, h3⟩, h4⟩ := hc; rcases List.mem_cons.1 hj with rfl | hj
      · obtain ⟨hw, _⟩ := hw; split at hw <;> try (exact hw.elim)
        rename_i o ho
        obtain ⟨U, ρ, r0⟩ := hr; refine stepA_ok tok ho hw r0 fun s h1' v w1 U1 ρ1 hK g hs => ?_; obtain ⟨σ', hK', r'⟩ := put_ok hK r0 g hs; refine (ord_ok tok hQ t).2 n _ σ' _ w1 h3 (fun k hk => ?_) h1 hK' r'; obtain ⟨x, hx, he⟩ := h2 k hk; rw [← nb_eq he]; exact hx
      · exact (ord_ok tok hQ r).1 n listed σ a w j h4 hw.2 hr hj
    refine ⟨hA, fun n listed σ a w hc hr hs hw r0 => ?_⟩
    cases n with
    | zero => unfold ordChk at hc; cases hc
    | succ n =>
      refine ⟨fun he => ?_, fun j hj => hA n listed σ a w j hc hw r0 (hr j hj)⟩; unfold ordChk at hc; rw [he] at hc; simp at hc
theorem W.ord {id : Nat} {Q : Exit → St → Prop} (t : OT) (σ1 : St) (tok : TbOk P tb) (hm : P.follows .mixedOrders = true) (hc : (t.some_ && ((Region.ready .any ops (Array.replicate ops.size false)).all fun j => t.heads.any fun i => nb i j) && ordChk ops t (Array.replicate ops.size false) ops.size) = true)
    (hw : ordW P tb ops (fun σ' => Le cx σ' σ1) t σ) (hk : Q .normal σ1) : W P cx (.region id ops true) σ Q := fun a w r => by
  simp only [Bool.and_eq_true, List.all_eq_true, List.any_eq_true] at hc; obtain ⟨⟨h1, h2⟩, h3⟩ := hc; refine wp_region_any hm ?_
  exact (ord_ok (cx := cx) (Q := fun e a' w' => ∃ σ', Q e σ' ∧ R cx σ' a' w') tok (fun σ' a' w' hl r' => ⟨σ1, hk, hl a' w' r'⟩) t).2 _ _ σ a _ h3 (fun k hk => by
    obtain ⟨x, hx, he⟩ := h2 k hk
    rw [← nb_eq he]; exact hx) h1 hw r.drew
theorem W.seqO {id : Nat} {Q : Exit → St → Prop} {c : Code} (t : OT) (σ1 : St) (tok : TbOk P tb) (hm : P.follows .mixedOrders = true) (hc : (t.some_ && ((Region.ready .any ops (Array.replicate ops.size false)).all fun j => t.heads.any fun i => nb i j) && ordChk ops t (Array.replicate ops.size false) ops.size) = true)
    (hw : ordW P tb ops (fun σ' => Le cx σ' σ1) t σ) (hk : W P cx c σ1 Q) : W P cx (.seq (.region id ops true) c) σ Q := W.seq (W.ord t σ1 tok hm hc hw hk)
end
attribute [simp] ordW
def closeC (h : List Blk) (c : C) : Option C := match closeArg h (.one c) with
  | some (.one c') => some c'
  | _ => none
def closeParts (h : List Blk) : List (Bool × List C) → Option (List (Bool × List C))
  | [] => some []
  | (false, [c]) :: r => match closeC h c, closeParts h r with
    | some c', some r' => some ((false, [c']) :: r')
    | _, _ => none
  | _ => none
def closeRes (h : List Blk) : S → Option S
  | .tup l => (closeParts h l).map .tup
  | s => closeArg h s
section
variable {P : Program} {U U1 : Nat → Prop} {ρ ρ1 : Nat → Value} {h h1 : List Blk} {w : World}
theorem closeArg_wr (ρ1 : Nat → Value) (h1 : List Blk) {s s' : S} {v : Value} (hc : closeArg h s = some s') (hr : HR U ρ h w) (hs : SR U ρ h w s v) : SR (fun b => U b ∧ ¬ Wr ρ h b) ρ1 h1 w s' v :=
  closeArg_ok ρ1 h1 hc hr (fun b _ hb => hb.1) (fun id g _ hp hu => hu.2 ⟨id, hp⟩) hs
theorem closeParts_wr (ρ1 : Nat → Value) (h1 : List Blk) (hr : HR U ρ h w) : ∀ (l : List (Bool × List C)) {l' : List (Bool × List C)} {vs : List Value}, closeParts h l = some l' → All2 (PartR U ρ h w) l vs → All2 (PartR (fun b => U b ∧ ¬ Wr ρ h b) ρ1 h1 w) l' vs
  | [], l', vs, hc, ha => by
    obtain rfl := Option.some.inj hc
    rw [ha.left_nil]; exact All2.nil
  | (b, cs) :: r, l', vs, hc, ha => by
    obtain ⟨v, vs', rfl, h2, h3⟩ := ha.left_cons; unfold closeParts at hc; split at hc <;> try (cases hc; done)
    · rename_i he; cases he
    · rename_i c r0 he
      cases he
      split at hc <;> try (cases hc; done)
      rename_i c' r' e1 e2
      obtain rfl := Option.some.inj hc; refine All2.cons ?_ (closeParts_wr ρ1 h1 hr r e2 h3); unfold closeC at e1; split at e1 <;> try (cases e1; done)
      rename_i c'' e3
      obtain rfl := Option.some.inj e1; obtain ⟨c0, e4, hcr⟩ := h2; obtain rfl := List.singleton_inj.1 e4; exact ⟨_, rfl, closeArg_wr ρ1 h1 e3 hr hcr⟩
theorem CallStep.froz {f : Nat} {xs : List S} {s s' : S} {H1 : List Blk} (hs : CallStep P f xs [] s H1) (hc : closeRes H1 s = some s') : CallStep P f xs [] s' [] := by
  refine ⟨hs.enters, fun U ρ w vs hr ha => ?_⟩; refine Calls.mono (hs.calls U ρ w vs hr ha) ?_; rintro e w' ⟨v, U1, ρ1, rfl, g, hsr⟩; have hno : ∀ b, ¬ Wr ρ [] b := fun b ⟨i, hi⟩ => by simp [place] at hi
  refine ⟨v, fun b => U1 b ∧ ¬ Wr ρ1 H1 b, ρ, rfl, ⟨g.agree, fun b hb hu => g.less b hb hu.1, fun b hb hu => ?_, HR.empty _ _ _, Ext.refl _ _, fun i g hi => by simp [place] at hi⟩, ?_⟩
  · rcases g.keep b hb hu with h | h
    · refine .inl ⟨h, fun ⟨i, hi⟩ => ?_⟩; rcases g.places i b hi with h' | h'
      · exact hno b h'
      · omega
    · exact absurd h (hno b)
  · unfold closeRes at hc; split at hc
    · obtain ⟨l', e1, rfl⟩ := Option.map_eq_some_iff.1 hc; obtain ⟨vs, e2, ha2⟩ := hsr; exact ⟨vs, e2, closeParts_wr ρ [] g.hr _ e1 ha2⟩
    · exact closeArg_wr ρ [] hc g.hr hsr
end
end Go.Den
end
section
-- the texts that this claim needs, out of this session's and its print's (wip/shrink.py)
namespace Go.Den
open Go Go.RowKit Go.Proofs.YtibfkkjkahpobaaGreatW.PrintWords
structure Br {α : Type} (d : Kd α) (k : K) (f : α → k.T) (g : k.T → α) : Prop where
  sz : d.sz = k.sz
  fw : ∀ {w x cs}, d.K w x cs → KR w k (f x) cs
  back : ∀ {w y cs}, KR w k y cs → d.K w (g y) cs
  gf : ∀ x, g (f x) = x
section
variable {α β : Type} {d : Kd α} {d1 : Kd β} {k k1 : K} {f : α → k.T} {g : k.T → α} {f1 : β → k1.T} {g1 : k1.T → β}
theorem Br.int (kk : IntKind) : Br (Kd.int kk) (.int kk) (fun x => x) (fun x => x) := ⟨rfl, fun h => h, fun h => h, fun _ => rfl⟩
theorem Br.bool : Br Kd.bool .bool (fun x => x) (fun x => x) := ⟨rfl, fun h => h, fun h => h, fun _ => rfl⟩
theorem Br.str : Br Kd.string .str (fun x => x) (fun x => x) := ⟨rfl, fun h => h, fun h => h, fun _ => rfl⟩
theorem Br.last (b : Br d k f g) : Br d (.pair k .unit) (fun x => (f x, ())) (fun y => g y.1) :=
  ⟨by rw [b.sz]; rfl, fun {w x cs} h => ⟨cs, [], by simp, b.fw h, rfl⟩, by
    rintro w y cs ⟨c0, c1, rfl, h0, h1⟩; obtain rfl := h1; rw [List.append_nil]
    exact b.back h0, b.gf⟩
theorem Br.pair (b : Br d k f g) (b1 : Br d1 k1 f1 g1) : Br (Kd.pair d d1) (.pair k k1) (fun x => (f x.1, f1 x.2)) (fun y => (g y.1, g1 y.2)) :=
  ⟨by show d.sz + d1.sz = _; rw [b.sz, b1.sz]; rfl, by
    rintro w x cs ⟨c0, c1, rfl, h0, h1⟩; exact ⟨c0, c1, rfl, b.fw h0, b1.fw h1⟩, by
    rintro w y cs ⟨c0, c1, rfl, h0, h1⟩
    exact ⟨c0, c1, rfl, b.back h0, b1.back h1⟩, fun x => by rw [b.gf, b1.gf]⟩
theorem Br.iso (b : Br d k f g) (p : β → α) (q : α → β) (hq : ∀ x, q (p x) = x) (hp : ∀ y, p (q y) = y) : Br (Kd.iso d p) k (fun x => f (p x)) (fun y => q (g y)) :=
  ⟨b.sz, fun h => b.fw h, fun {w y cs} h => by
    show d.K w (p (q (g y))) cs; rw [hp]
    exact b.back h, fun x => by rw [b.gf, hq]⟩
theorem Br.slice (e : Nat) (b : Br d k f g) : Br (Kd.slice e d) (.row e k) (List.map f) (List.map g) := by
  refine ⟨rfl, ?_, ?_, fun xs => ?_⟩
  · rintro w xs cs ⟨A, c, rfl, hc, h1, h2, h3⟩; refine ⟨A, c, ?_, ?_, ?_⟩
    · show _ = [Value.slice A (xs.map f).length c]; rw [List.length_map]
    · show (xs.map f).length ≤ c; rw [List.length_map]; exact hc
    · refine ⟨rfl, ?_, fun hn => ?_⟩
      · show (xs.map f).length ≤ _; rw [List.length_map]; exact h2
      · obtain ⟨ad, e1, h4⟩ := h3 (by rw [List.length_map] at hn; exact hn); refine ⟨ad, e1, fun j p hj => ?_⟩; rw [List.getElem?_map] at hj; obtain ⟨x, hx, rfl⟩ := Option.map_eq_some_iff.1 hj; obtain ⟨c1, h5, h6, h7⟩ := h4 j x hx; refine ⟨c1, h5.trans b.sz, b.fw h6, fun i u hu => ?_⟩; rw [← b.sz]; exact h7 i u hu
  · rintro w ys cs ⟨A, c, rfl, hc, h1, h2, h3⟩; refine ⟨A, c, ?_, ?_, ?_⟩
    · rw [List.length_map]
    · rw [List.length_map]; exact hc
    · refine ⟨rfl, ?_, fun hn => ?_⟩
      · rw [List.length_map]; exact h2
      · obtain ⟨ad, e1, h4⟩ := h3 (by rw [List.length_map] at hn; exact hn); refine ⟨ad, e1, fun j p hj => ?_⟩; rw [List.getElem?_map] at hj; obtain ⟨x, hx, rfl⟩ := Option.map_eq_some_iff.1 hj; obtain ⟨c1, h5, h6, h7⟩ := h4 j x hx; refine ⟨c1, h5.trans b.sz.symm, b.back h6, fun i u hu => ?_⟩; rw [b.sz]; exact h7 i u hu
  · rw [List.map_map]
    conv => rhs; rw [← List.map_id xs]
    exact List.map_congr_left fun x _ => b.gf x
variable {U : Nat → Prop} {w w1 : World} {ρ : Nat → Value} {h : List Blk}
theorem Br.ks (b : Br d k f g) {x : α} {cs : List Value} (hU : ∀ a, a < w.heap.size → ¬ U a) (hk : d.K w x cs) : KS U w k (f x) cs := fun w' ag => b.fw (d.K_below (ag.below hU) hk)
theorem Br.arg (b : Br d k f g) {x : α} {cs : List Value} (hk : KS U w k (f x) cs) : d.K w x cs := by
  have := b.back hk.now; rw [b.gf] at this; exact this
theorem Br.argRow (b : Br d k f g) {e : Nat} {xs : List α} {v : Value} (hk : KS U w (.row e k) (xs.map f) [v]) : ∃ A c, v = .slice A xs.length c ∧ xs.length ≤ c ∧ d.C w A xs.length xs := by
  obtain ⟨A, c, h1, h2, h3⟩ := (b.slice e).arg hk; exact ⟨A, c, List.singleton_inj.1 h1, h2, h3⟩
theorem Br.ofRow (b : Br d k f g) {e : Nat} {xs : List α} {A : Option Addr} {c : Nat} (hU : ∀ a, a < w.heap.size → ¬ U a) (hc : xs.length ≤ c) (hk : d.C w A xs.length xs) : KS U w (.row e k) (xs.map f) [.slice A xs.length c] :=
  (b.slice e).ks hU ⟨A, c, rfl, hc, hk⟩
theorem Br.made (b : Br d k f g) {base : Nat} {ok : Nat → Prop} {x : α} {cs : List Value} (hm : d.M w base ok x cs) (hU : ∀ a, base ≤ a → a < w.heap.size → ok a → ¬ U a) : KS U w k (f x) cs := fun w' ag =>
  b.fw (d.K_of_M (d.M_move (fun a ha => ag.block a ha.2.2.1 (hU a ha.2.1 ha.2.2.1 ha.1)) (d.M_bound hm)))
theorem Br.ownRow (b : Br d k f g) {e base : Nat} {ok : Nat → Prop} {xs : List α} {v : Value} {id : Nat} (hm : d.R e w base ok v xs) (hU : ∀ a, base ≤ a → a < w.heap.size → some a ≠ v.ownBlock → ¬ U a) (hρ : ρ id = v) : BR U ρ h w id (.row e k (xs.map f)) := by
  obtain ⟨h0, inner, ho, hr⟩ := hm; refine ⟨inner, ?_, ?_⟩
  · rw [hρ, List.length_map, ← b.sz]; exact own_weaken ho (Nat.zero_le _)
  · refine ⟨?_, fun j p hj => ?_⟩
    · rw [List.length_map, ← b.sz]; exact hr.1
    · rw [List.getElem?_map] at hj; obtain ⟨x, hx, rfl⟩ := Option.map_eq_some_iff.1 hj; have := hr.2 j x hx; rw [b.sz] at this; exact b.made this fun a h1 h2 h3 => hU a h1 h2 h3.2
end
theorem CallStep.mk1 {P : Program} {f : FuncId} {xs : List S} {s : S} (en : Enters P f) (hc : ∀ U ρ w (vs : Array Value), All2 (SR U ρ [] w) xs vs.toList → Calls P f vs w fun e w' => ∃ v, e = .returned v ∧ Below w.heap.size w w' ∧ ∀ U1, (∀ b, U1 b → b < w.heap.size) → SR U1 ρ [] w' s v) : CallStep P f xs [] s [] := by
  refine ⟨en, fun U ρ w vs hr ha => Calls.mono (hc U ρ w vs ha) ?_⟩; rintro e w' ⟨v, rfl, hb, hs⟩; refine ⟨v, fun b => U b ∧ b < w.heap.size, ρ, rfl, ⟨Agree.of_below hb, fun b _ h => h.1, fun b hlt h => .inl ⟨h, hlt⟩, ⟨fun id b h => by simp at h, fun i j g h => by simp [place] at h, fun i g h => by simp [place] at h⟩, Ext.refl _ _, fun i g h => by simp [place] at h⟩, hs _ fun b h => h.2⟩
theorem CallStep.mkOwn {P : Program} {f : FuncId} {xs : List S} {s : S} {e : Nat} {k : K} {ys : List k.T} (en : Enters P f) (hc : ∀ U ρ w (vs : Array Value), All2 (SR U ρ [] w) xs vs.toList → Calls P f vs w fun x w' => ∃ v v0, x = .returned v ∧ Below w.heap.size w w' ∧ (∀ g, v0.ownBlock = some g → w.heap.size ≤ g ∧ g < w'.heap.size) ∧
    ∀ U1 ρ1, (∀ b, U1 b → b < w.heap.size ∨ some b = v0.ownBlock) → ρ1 0 = v0 → BR U1 ρ1 [.row e k ys] w' 0 (.row e k ys) ∧ SR U1 ρ1 [.row e k ys] w' s v) : CallStep P f xs [] s [.row e k ys] := by
  refine ⟨en, fun U ρ w vs hr ha => Calls.mono (hc U ρ w vs ha) ?_⟩; rintro x w' ⟨v, v0, rfl, hb, hg, hs⟩
  have hpl : ∀ i g, place (fun _ => v0) [.row e k ys] i = some g → i = 0 ∧ v0.ownBlock = some g := fun i g h => by
    cases i with
    | zero => exact ⟨rfl, h⟩
    | succ i => simp [place] at h
  obtain ⟨h1, h2⟩ := hs (fun b => (U b ∧ b < w.heap.size) ∨ some b = v0.ownBlock) (fun _ => v0) (fun b h => h.imp (fun h => h.2) id) rfl; refine ⟨v, _, fun _ => v0, rfl, ⟨Agree.of_below hb, fun b hlt h => ?_, fun b hlt h => .inl (.inl ⟨h, hlt⟩), ⟨fun id b h => ?_, fun i j g hi hj => ?_, fun i g hi => ?_⟩, ?_, fun i g hi => ?_⟩, h2⟩
  · rcases h with h | h
    · exact h.1
    · have := (hg b h.symm).1; omega
  · cases id with
    | zero => obtain rfl := Option.some.inj h; exact h1
    | succ id => simp at h
  · rw [(hpl i g hi).1, (hpl j g hj).1]
  · obtain ⟨_, h⟩ := hpl i g hi; exact ⟨.inr h.symm, (hg g h).2⟩
  · exact ⟨Nat.zero_le _, fun id k h => by simp at h, fun id h => by simp at h⟩
  · exact .inr (hg g (hpl i g hi).2).1
end Go.Den
end
section
-- the texts that this claim needs, out of this session's and its print's (wip/shrink.py)
namespace Go.Den
open Go Go.RowKit Go.Proofs Go.Proofs.YtibfkkjkahpobaaGreatW.PrintWords Go.Proofs.YtibfkkjkahpobaaGreat.PDag
@[reducible] def kI : K := .int .i64
@[reducible] def kIns : K := .pair (.int .i64) (.pair (.int .i64) (.pair (.int .i64) (.pair (.int .i64) (.pair (.int .i64) (.pair .str .unit)))))
@[reducible] def kBun : K := .pair kIns (.pair kIns (.pair kIns (.pair kIns .unit)))
@[reducible] def kBlk : K := .pair (.row 9 .str) (.pair (.row 24 kIns) (.pair kIns .unit))
def f24 (x : S24) : kIns.T := (x.f0, x.f1, x.f2, x.f3, x.f4, x.f5, ())
def g24 (y : kIns.T) : S24 := ⟨y.1, y.2.1, y.2.2.1, y.2.2.2.1, y.2.2.2.2.1, y.2.2.2.2.2.1⟩
theorem br24 : Br k24 kIns f24 g24 := Br.iso (Br.pair (Br.int .i64) (Br.pair (Br.int .i64) (Br.pair (Br.int .i64) (Br.pair (Br.int .i64) (Br.pair (Br.int .i64) (Br.last Br.str)))))) (fun x : S24 => (x.f0, x.f1, x.f2, x.f3, x.f4, x.f5)) (fun y => ⟨y.1, y.2.1, y.2.2.1, y.2.2.2.1, y.2.2.2.2.1, y.2.2.2.2.2⟩) (fun _ => rfl) (fun _ => rfl)
def f62 (x : S62) : kBun.T := (f24 x.f0, f24 x.f1, f24 x.f2, f24 x.f3, ())
def g62 (y : kBun.T) : S62 := ⟨g24 y.1, g24 y.2.1, g24 y.2.2.1, g24 y.2.2.2.1⟩
theorem br62 : Br k62 kBun f62 g62 := Br.iso (Br.pair br24 (Br.pair br24 (Br.pair br24 (Br.last br24)))) (fun x : S62 => (x.f0, x.f1, x.f2, x.f3)) (fun y => ⟨y.1, y.2.1, y.2.2.1, y.2.2.2⟩) (fun _ => rfl) (fun _ => rfl)
theorem brStrs : Br (Kd.slice 9 Kd.string) (.row 9 .str) (fun x => x) (fun x => x) := by
  have := Br.slice 9 Br.str; rw [show (List.map fun x : ByteArray => x) = fun x => x from funext fun l => List.map_id' l] at this; exact this
theorem brInts (k : IntKind) (e : Nat) : Br (Kd.slice e (Kd.int k)) (.row e (.int k)) (fun x => x) (fun x => x) := by
  have := Br.slice e (Br.int k); rw [show (List.map fun x : Int => x) = fun x => x from funext fun l => List.map_id' l] at this; exact this
def f41 (x : S41) : kBlk.T := (x.f0, x.f1.map f24, f24 x.f2, ())
def g41 (y : kBlk.T) : S41 := ⟨y.1, y.2.1.map g24, g24 y.2.2.1⟩
theorem br41 : Br k41 kBlk f41 g41 := Br.iso (Br.pair brStrs (Br.pair (Br.slice 24 br24) (Br.last br24))) (fun x : S41 => (x.f0, x.f1, x.f2)) (fun y => ⟨y.1, y.2.1, y.2.2⟩) (fun _ => rfl) (fun _ => rfl)
section
variable {U : Nat → Prop} {ρ : Nat → Value} {h : List Blk} {w : World}
theorem argInts {k : IntKind} {e : Nat} {xs : List Int} {v : Value} (hk : KS U w (.row e (.int k)) xs [v]) : ∃ A c, v = .slice A xs.length c ∧ xs.length ≤ c ∧ (Kd.int k).C w A xs.length xs := by
  obtain ⟨A, c, h1, h2, h3⟩ := (brInts k e).arg (x := xs) hk; exact ⟨A, c, List.singleton_inj.1 h1, h2, h3⟩
theorem argStrs {xs : List ByteArray} {v : Value} (hk : KS U w (.row 9 .str) xs [v]) : ∃ A c, v = .slice A xs.length c ∧ xs.length ≤ c ∧ Kd.string.C w A xs.length xs := by
  obtain ⟨A, c, h1, h2, h3⟩ := brStrs.arg (x := xs) hk; exact ⟨A, c, List.singleton_inj.1 h1, h2, h3⟩
theorem vs1 {s : S} {vs : Array Value} (ha : All2 (SR U ρ h w) [s] vs.toList) : ∃ v, vs = #[v] ∧ SR U ρ h w s v := by
  obtain ⟨v, vs', h1, h2, h3⟩ := ha.left_cons; obtain rfl := h3.left_nil; exact ⟨v, Array.toList_inj.1 h1, h2⟩
theorem vs2 {s s' : S} {vs : Array Value} (ha : All2 (SR U ρ h w) [s, s'] vs.toList) : ∃ v v', vs = #[v, v'] ∧ SR U ρ h w s v ∧ SR U ρ h w s' v' := by
  obtain ⟨v, vs', h1, h2, h3⟩ := ha.left_cons; obtain ⟨v', vs'', rfl, h4, h5⟩ := h3.left_cons; obtain rfl := h5.left_nil; exact ⟨v, v', Array.toList_inj.1 h1, h2, h4⟩
theorem blkArg {b : S41} {v : Value} (ha : SR U ρ h w (.agg (kBlk.flat (f41 b))) v) : ∃ A0 c0 A1 c1, v = .agg #[.slice A0 b.f0.length c0, .slice A1 b.f1.length c1, .int .i64 b.f2.f0, .int .i64 b.f2.f1, .int .i64 b.f2.f2, .int .i64 b.f2.f3, .int .i64 b.f2.f4, .string b.f2.f5] ∧
    b.f0.length ≤ c0 ∧ Kd.string.C w A0 b.f0.length b.f0 ∧ b.f1.length ≤ c1 ∧ k24.C w A1 b.f1.length b.f1 := by
  obtain ⟨cs, rfl, h1⟩ := ha; obtain ⟨v0, l0, e0, a0, h1⟩ := h1.left_cons; obtain ⟨v1, l1, rfl, a1, h1⟩ := h1.left_cons; obtain ⟨v2, l2, rfl, a2, h1⟩ := h1.left_cons; obtain ⟨v3, l3, rfl, a3, h1⟩ := h1.left_cons; obtain ⟨v4, l4, rfl, a4, h1⟩ := h1.left_cons; obtain ⟨v5, l5, rfl, a5, h1⟩ := h1.left_cons; obtain ⟨v6, l6, rfl, a6, h1⟩ := h1.left_cons; obtain ⟨v7, l7, rfl, a7, h1⟩ := h1.left_cons; obtain rfl := h1.left_nil; obtain ⟨A0, c0, rfl, b1, b2⟩ := argStrs (xs := b.f0) a0; obtain ⟨A1, c1, rfl, b3, b4⟩ := br24.argRow (e := 24) (xs := b.f1) a1; refine ⟨A0, c0, A1, c1, ?_, b1, b2, b3, b4⟩; have : cs = #[.slice A0 b.f0.length c0, .slice A1 b.f1.length c1, v2, v3, v4, v5, v6, v7] := Array.toList_inj.1 e0; rw [this, show v2 = _ from a2, show v3 = _ from a3, show v4 = _ from a4, show v5 = _ from a5, show v6 = _ from a6, show v7 = _ from a7]; rfl
end
end Go.Den
end
section
-- the texts that this claim needs, out of this session's and its print's (wip/shrink.py)
namespace Go.Den
open Go Go.RowKit
theorem CallStep.frame {P : Program} {f : FuncId} {id e : Nat} {h : List Blk} {k : K} {xs ys : List k.T} (hs : CallStep P f [.one (.own 0)] [.row e k xs] (.tup []) [.row e k ys]) (hid : h[id]? = some (.row e k xs)) : CallStep P f [.one (.own id)] h (.tup []) (h.set id (.row e k ys)) := by
  refine ⟨hs.enters, fun U ρ w vs hr ha => ?_⟩; have hlt : id < h.length := (List.getElem?_eq_some_iff.1 hid).1
  have hp0 : ∀ i g, place (fun _ => ρ id) [Blk.row e k xs] i = some g → i = 0 ∧ (ρ id).ownBlock = some g := fun i g hi => by
    cases i with
    | zero => exact ⟨rfl, hi⟩
    | succ i => simp [place] at hi
  have hpid : place ρ h id = (ρ id).ownBlock := place_row hid
  have hrU : HR U (fun _ => ρ id) [Blk.row e k xs] w := by
    refine ⟨fun i b hb => ?_, fun i j g hi hj => ?_, fun i g hi => ?_⟩
    · cases i with
      | zero => obtain rfl := Option.some.inj hb; exact hr.blk id _ hid
      | succ i => simp at hb
    · rw [(hp0 i g hi).1, (hp0 j g hj).1]
    · exact hr.inU id g (hpid.trans (hp0 i g hi).2)
  have ha' : All2 (SR U (fun _ => ρ id) [Blk.row e k xs] w) [.one (.own 0)] vs.toList := by
    obtain ⟨v, vs', e1, hv, hn⟩ := ha.left_cons; obtain rfl := hn.left_nil; rw [e1]; have hv' : v.oneCell' = true ∧ id < h.length ∧ (∀ k, rowK h id = some k → v = ρ id) := hv; exact All2.cons ⟨hv'.1, Nat.zero_lt_one, fun _ _ => hv'.2.2 k (rowK_row hid)⟩ All2.nil
  refine Calls.mono (hs.calls U _ w vs hrU ha') ?_; rintro x w' ⟨v, U1, ρ1, rfl, g, vs1, hv1, ha1⟩; have hρ : ρ1 0 = ρ id := (g.ext.row 0 k Nat.zero_lt_one rfl).2; have hget : ∀ i, i ≠ id → (h.set id (.row e k ys))[i]? = h[i]? := fun i hi => get_set_ne (Ne.symm hi); have hget' : (h.set id (.row e k ys))[id]? = some (.row e k ys) := get_set hlt
  have hpl : ∀ i, place ρ (h.set id (.row e k ys)) i = place ρ h i := fun i => by
    by_cases hi : i = id
    · subst hi; rw [hpid, place_row hget']
    · unfold place; rw [hget i hi]
  have hwr : ∀ b, Wr (fun _ => ρ id) [Blk.row e k xs] b → Wr ρ h b := fun b ⟨i, hi⟩ => ⟨id, hpid.trans (hp0 i b hi).2⟩
  have hext : Ext ρ h ρ (h.set id (.row e k ys)) := by
    refine ⟨by rw [List.length_set]; exact Nat.le_refl _, fun i k' _ hk => ⟨?_, rfl⟩, fun i _ hk => ⟨?_, rfl⟩⟩
    · by_cases hi : i = id
      · subst hi; unfold rowK at hk ⊢; rw [hget'] at hk; rw [hid]; exact hk
      · unfold rowK at hk ⊢; rw [hget i hi] at hk; exact hk
    · by_cases hi : i = id
      · subst hi; unfold isBox at hk; rw [hget'] at hk; cases hk
      · unfold isBox at hk ⊢; rw [hget i hi] at hk; exact hk
  refine ⟨v, U1, ρ, rfl, ⟨g.agree.mono fun b _ hb => hwr b hb, g.less, fun b hb hu => (g.keep b hb hu).imp (fun h => h) (hwr b), ⟨fun i b hb => ?_, fun i j x hi hj => ?_, fun i x hi => ?_⟩, hext, fun i x hi => .inl ⟨i, (hpl i).symm.trans hi⟩⟩, vs1, hv1, by rw [ha1.left_nil]; exact All2.nil⟩
  · by_cases hi : i = id
    · subst hi; rw [hget'] at hb; obtain rfl := Option.some.inj hb; obtain ⟨cs, h1, h2⟩ := g.hr.blk 0 _ rfl; rw [hρ] at h1; exact ⟨cs, h1, h2⟩
    · rw [hget i hi] at hb; refine (hr.blk i b hb).tr hb (g.tr hrU) hext (fun _ _ _ => rfl) fun x hx => ?_; refine g.agree.block x (hr.inU i x hx).2 fun ⟨j, hj⟩ => ?_; exact hi (hr.apart i id x hx (hpid.trans (hp0 j x hj).2))
  · rw [hpl] at hi hj; exact hr.apart i j x hi hj
  · rw [hpl] at hi; have hx := hr.inU i x hi; refine ⟨?_, Nat.lt_of_lt_of_le hx.2 g.agree.size⟩; rcases g.keep x hx.2 hx.1 with h | ⟨j, hj⟩
    · exact h
    · refine (g.hr.inU 0 x ?_).1; show (ρ1 0).ownBlock = some x; rw [hρ]; exact (hp0 j x hj).2
end Go.Den
end
section
namespace Go.Proofs.YtibfkkjkahpobaaGreat.PDag
attribute [local go_sem] max2_int min2_int max_two min_two max_three min_three max_four min_four
theorem block_May_1.calls (k : Nat) (a0_0 : Int) (a0_1 : Int) (a0_2 : Int) (a0_3 : Int) (a0_4 : Int) (a0_5 : ByteArray) (r : Bool) (w : World) (h : dag_May_1.f k a0_0 a0_1 a0_2 a0_3 a0_4 a0_5 = some r) :
    Calls Tryz.prog 57 #[.agg #[.int .i64 a0_0, .int .i64 a0_1, .int .i64 a0_2, .int .i64 a0_3, .int .i64 a0_4, .string a0_5]] w fun e w' => e = .returned (.bool r) ∧ Below w.heap.size w w' := by
  have hu24 := Tryz.underlying24; have HB := aM_ (Below.refl w.heap.size w); have H : ((block_Plain.f k a0_0 a0_1 a0_2 a0_3 a0_4 a0_5).bind fun t350 => (some (!t350))) = some r := h; clear h; obtain ⟨t350, A2, H⟩ := oB_ H; obtain rfl := oI_ H; go_enter Tryz.func57, Tryz.ntmps57
  go_wp2_with (first | ((with_reducible refine gate_dst (N := 1) rfl ?_); refine bX_ (N := 1) (cs := #[.int .i64 a0_0, .int .i64 a0_1, .int .i64 a0_2, .int .i64 a0_3, .int .i64 a0_4, .string a0_5]) (t := 24) ?_; intro gb349 hg w3 hbox hb; replace BK349 := aM_ (hbox); replace GW349 := aM_ (gE_ hg (bl_ HB)); replace GE349 := aM_ (gE_ hg (bl_ HB)); replace HB := aM_ (bT_ (bl_ HB) hb); clear hb hbox hg; obtain ⟨hcz4_0, hcz4_1, hcz4_2, hcz4_3, hcz4_4, hcz4_5⟩ := cl6_ BK349.out; obtain ⟨hfz4_0, hfz4_1, hfz4_2, hfz4_3, hfz4_4, hfz4_5⟩ := fz6_ BK349.out) | ((with_reducible refine gC_ (f := 58) rfl ?_); refine gL_ (some 4) Tryz.func58 #[.agg #[.int .i64 a0_0, .int .i64 a0_1, .int .i64 a0_2, .int .i64 a0_3, .int .i64 a0_4, .string a0_5]] rfl ?_; (with_reducible refine (block_Plain.calls k a0_0 a0_1 a0_2 a0_3 a0_4 a0_5 t350 _ A2.out).mono ?_); rintro e w5 ⟨rfl, hb⟩; refine ⟨_, rfl, ?_⟩; replace BK349 := aM_ (kB_ (rB_ BK349) hb); replace HB := aM_ (bT_ (bs_ HB GE349) hb)))
  go_ret; exact ⟨eR_, bs_ HB GE349⟩
theorem aI57_88057.calls (k : Nat) (A0 : Option Addr) (c0 : Nat) (l0 : List (S24))  (r : Int) (w : World) (hr0 : Kd.C k24 w A0 l0.length l0) (hc0 : l0.length ≤ c0) (h : aI62_88062.f k l0 = some r) :
    Calls Tryz.prog 88 #[.slice A0 l0.length c0, .func (.func 57) #[] #[]] w fun e w' => e = .returned (.int .i64 r) ∧ Below w.heap.size w w' := by
  have hu24 := Tryz.underlying24; have HR0 := aM_ hr0; have HC0 := aM_ hc0; clear hr0 hc0; have HB := aM_ (Below.refl w.heap.size w); have H : (aI62_88062.l0 k l0 (l0.length : Int) 0) = some r := h; clear h; replace H := aM_ H; go_enter Tryz.func88, Tryz.ntmps88; go_wp2
  go_loopg [8] k (fun kq v8 w' => ∃ (x8_1 : Int), v8 = .int .i64 x8_1 ∧ As_ (aI62_88062.l0 kq l0 (l0.length : Int) x8_1 = some r) ∧ As_ (kq ≤ k) ∧ As_ (Below w.heap.size w w'))
  case atStart => exact ⟨(0), eQ_, H, ⟨Nat.le_refl _⟩, ⟨bl_ HB⟩⟩
  case round =>
    clear H
    try clear p2
    obtain ⟨x8_1, rfl, HA, HK1, HB⟩ := hrel
    cases gk with
    | zero => exact absurd HA.out (by simp [aI62_88062.l0])
    | succ k1 =>
      have H := HA.out; clear HA; simp only [aI62_88062.l0] at H
      by_cases c3 : x8_1 < (l0.length : Int)
      · rw [if_pos c3] at H; have c3b0 := dE_ c3; clear c3
        by_cases c4 : 0 ≤ x8_1
        · rw [if_pos c4] at H; have c4b0 := dE_ c4; clear c4
          by_cases c5 : x8_1 < (l0.length : Int)
          · rw [if_pos c5] at H; have c5b0 := dE_ c5; clear c5; obtain ⟨t352, A6, H⟩ := oB_ H
            by_cases c7 : t352 = true
            · subst c7; rw [if_pos rfl] at H; obtain rfl := oI_ H; have p351 : 0 ≤ (x8_1 : Int) := oD_; have q351 : x8_1 < (l0.length : Int) := oD_; obtain ⟨ad351, e351, hx351_0, hx351_1, hx351_2, hx351_3, hx351_4, hx351_5⟩ := at_T24 HR0.out x8_1 p351 q351
              cases e351
              replace hx351_0 := hC_ HB hx351_0; replace hx351_1 := hC_ HB hx351_1; replace hx351_2 := hC_ HB hx351_2; replace hx351_3 := hC_ HB hx351_3; replace hx351_4 := hC_ HB hx351_4; replace hx351_5 := hC_ HB hx351_5; replace p351 := eq_true p351; replace q351 := eq_true q351
              go_wp2_with (first | (go_at_call 57; (with_reducible refine (block_May_1.calls k1 ((J24 l0 x8_1).f0) ((J24 l0 x8_1).f1) ((J24 l0 x8_1).f2) ((J24 l0 x8_1).f3) ((J24 l0 x8_1).f4) ((J24 l0 x8_1).f5) true _ A6.out).mono ?_); rintro e w8 ⟨rfl, hb⟩; replace HB := aM_ (bT_ (bl_ HB) hb)))
              go_ret; exact ⟨eR_, bl_ HB⟩
            · replace c7 := eF_ c7; subst c7; rw [if_neg Bool.false_ne_true] at H; replace H := aM_ H; have p351 : 0 ≤ (x8_1 : Int) := oD_; have q351 : x8_1 < (l0.length : Int) := oD_; obtain ⟨ad351, e351, hx351_0, hx351_1, hx351_2, hx351_3, hx351_4, hx351_5⟩ := at_T24 HR0.out x8_1 p351 q351
              cases e351
              replace hx351_0 := hC_ HB hx351_0; replace hx351_1 := hC_ HB hx351_1; replace hx351_2 := hC_ HB hx351_2; replace hx351_3 := hC_ HB hx351_3; replace hx351_4 := hC_ HB hx351_4; replace hx351_5 := hC_ HB hx351_5; replace p351 := eq_true p351; replace q351 := eq_true q351
              go_wp2_with (first | (go_at_call 57; (with_reducible refine (block_May_1.calls k1 ((J24 l0 x8_1).f0) ((J24 l0 x8_1).f1) ((J24 l0 x8_1).f2) ((J24 l0 x8_1).f3) ((J24 l0 x8_1).f4) ((J24 l0 x8_1).f5) false _ A6.out).mono ?_); rintro e w9 ⟨rfl, hb⟩; replace HB := aM_ (bT_ (bl_ HB) hb)))
              go_roundg k1
              case measure => have := HK1.out; omega
              case rel => exact ⟨(wrap64 (x8_1 + 1)), eQ_, H, ⟨by have := HK1.out; omega⟩, ⟨bl_ HB⟩⟩
          · rw [if_neg c5] at H; exact absurd H (by simp)
        · rw [if_neg c4] at H; exact absurd H (by simp)
      · rw [if_neg c3] at H; have c3b0 := dF_ c3; clear c3; obtain rfl := oI_ H; go_wp2; go_ret; exact ⟨eR_, bl_ HB⟩
theorem aI57_56057.calls (k : Nat) (A0 : Option Addr) (c0 : Nat) (l0 : List (S24))  (r : Bool) (w : World) (hr0 : Kd.C k24 w A0 l0.length l0) (hc0 : l0.length ≤ c0) (h : aI62_56062.f k l0 = some r) :
    Calls Tryz.prog 56 #[.slice A0 l0.length c0, .func (.func 57) #[] #[]] w fun e w' => e = .returned (.bool r) ∧ Below w.heap.size w w' := by
  have HR0 := aM_ hr0; have HC0 := aM_ hc0; clear hr0 hc0; have HB := aM_ (Below.refl w.heap.size w); have H : ((aI62_88062.f k l0).bind fun t353 => (some (decide (t353 ≥ 0)))) = some r := h; clear h; obtain ⟨t353, A3, H⟩ := oB_ H; obtain rfl := oI_ H; go_enter Tryz.func56, Tryz.ntmps56
  go_wp2_with (first | ((with_reducible refine gC_ (f := 88) rfl ?_); refine gL_ (some 7) Tryz.func88 #[.slice A0 l0.length c0, .func (.func 57) #[] #[]] rfl ?_; (with_reducible refine (aI57_88057.calls k _ _ l0  t353 _ ?side1 ?side2 A3.out).mono ?_); (case side1 => exact rC_ HR0.out); (case side2 => exact HC0.out); rintro e w4 ⟨rfl, hb⟩; refine ⟨_, rfl, ?_⟩; replace HB := aM_ (bT_ (bl_ HB) hb)))
  go_ret; exact ⟨eR_, bl_ HB⟩
end Go.Proofs.YtibfkkjkahpobaaGreat.PDag
end
section
namespace Go.Proofs.YtibfkkjkahpobaaGreat.PDag
attribute [local go_sem] Oper.semAt_some
attribute [local go_sem high] eqA24
def zeroI (x : S24) : Bool := x.f0 == 0 && (x.f1 == 0 && (x.f2 == 0 && (x.f3 == 0 && (x.f4 == 0 && x.f5.toList.isEmpty))))
def mayBlk (l : List S24) (x : S24) : Bool := allPlain l && (if zeroI x = true then decide (l.length ≤ 200) else okI x && (endsOp x.f0 && decide (l.length + 1 ≤ 200)))
theorem contains_eq (l : List S24) (hl : l.length ≤ 1000000000) : aI62_56062.f (62 + l.length) l = some (!allPlain l) := by
  unfold aI62_56062.f aI62_88062.f; obtain ⟨r, h1, h2⟩ := idx_loop l hl l.length (62 + l.length) 0 (by omega) (by omega); rw [show ((0 : Nat) : Int) = 0 from rfl] at h1; rw [h1]; simp only [Option.bind_some, h2, List.drop_zero]; rfl
def totB (l : List S24) (x : S24) : Int := if zeroI x = true then l.length else l.length + 1
end Go.Proofs.YtibfkkjkahpobaaGreat.PDag
end
section
namespace Go.Proofs.YtibfkkjkahpobaaGreat.PDag
open Go.Maps (setOf)
open Go.WideMaps (keyOf_string_mk)
attribute [local go_sem] Oper.semAt_some
attribute [local go_sem high] eqA24
def lit (s : ByteArray) : Lit := .string s.data.toList
def keysOf (ls : List ByteArray) : List Lit := ls.map lit
def yes : DataW Unit := .lit (.bool true)
def no : DataW Unit := .lit (.bool false)
theorem u103 : Tryz.prog.underlying 103 = some (.map 9 4) := by kernel_rfl
theorem K9 : Go.Maps.Keyed Tryz.prog 9 := Go.Maps.string_keyed Tryz.underlying9
theorem key_lit (l : Lit) (h : ∃ s, l = lit s) : WideAt.IsKeyLit l := by
  obtain ⟨s, rfl⟩ := h; simp [WideAt.IsKeyLit, lit]
theorem keys_lit (ls : List ByteArray) : ∀ x ∈ keysOf ls, WideAt.IsKeyLit x := fun x hx => by
  obtain ⟨s, _, rfl⟩ := List.mem_map.1 hx; exact key_lit _ ⟨s, rfl⟩
def among (ls : List ByteArray) (s : ByteArray) : Bool := ls.any (fun t => t.data.toList == s.data.toList)
theorem has_among (ls : List ByteArray) (s : ByteArray) : Maps.has (setOf yes (keysOf ls)) (lit s) = among ls s := by
  rw [Go.Maps.has_setOf _ _ _ (keys_lit ls)]; unfold keysOf among; rw [List.any_map]; congr 1
theorem at_fold (s : ByteArray) : ∀ (ls : List ByteArray) (m : DataW Unit), Maps.IsMap m → ((keysOf ls).foldl (fun m x => m.put x yes) m).atKey (lit s) no = if among ls s = true then yes else m.atKey (lit s) no
  | [], m, _ => by simp [keysOf, among]
  | t :: r, m, hm => by
    have h1 := at_fold s r (m.put (lit t) yes) (hm.put _ _); show ((keysOf r).foldl (fun m x => m.put x yes) (m.put (lit t) yes)).atKey (lit s) no = _; rw [h1]; unfold among; rw [List.any_cons]
    by_cases ht : t.data.toList = s.data.toList
    · have e : lit t = lit s := by unfold lit; rw [ht]
      rw [e, Maps.atKey_put_same hm (key_lit _ ⟨s, rfl⟩), beq_iff_eq.mpr ht]; simp
    · have e : lit s ≠ lit t := fun h => ht (by unfold lit at h; injection h with h; exact h.symm); rw [Maps.atKey_put_other e, beq_eq_false_iff_ne.mpr ht, Bool.false_or]
theorem at_among (ls : List ByteArray) (s : ByteArray) : (setOf yes (keysOf ls)).atKey (lit s) no = .lit (.bool (among ls s)) := by
  unfold setOf; rw [at_fold s ls _ Maps.isMap_empty]
  cases among ls s <;> rfl
def LM (w : World) (b : Nat) (ls : List ByteArray) : Prop := w.ownsMap Tryz.prog 9 (plainElem (H := Unit) Tryz.prog 4) b ls.length (setOf yes (keysOf ls))
theorem lm_new (w : World) : LM (w.alloc (.map #[] 0)) w.heap.size [] := World.ownsMap_made w _ _ _
theorem lm_below {w w1 : World} {b n : Nat} {ls : List ByteArray} (h : LM w b ls) (hb : Below n w w1) (hn : b < n) : LM w1 b ls := by
  obtain ⟨es, c, h1, h2⟩ := h; exact ⟨es, c, (hb.block b hn).trans h1, h2⟩
theorem lm_lt {w : World} {b : Nat} {ls : List ByteArray} (h : LM w b ls) : b < w.heap.size := h.lt
def bof : DataW Unit → Bool
  | .lit (.bool b) => b
  | _ => false
theorem bool_inv {P : Program} {e : TypeId} (he : P.underlying e = some .bool) {v : Value} {z : DataW Unit × List MemPlace} (h : plainElem P e v = some z) : ∃ x, v = .bool x ∧ z = (.lit (.bool x), []) := by
  unfold plainElem at h; split at h
  · injection h with h
    exact ⟨_, rfl, h.symm⟩
  · rename_i h1
    rw [he] at h1; injection h1 with h1
    injection h1
  · rename_i h1
    rw [he] at h1; injection h1 with h1
    injection h1
  · injection h
theorem lm_look {w : World} {b : Nat} {ls : List ByteArray} (h : LM w b ls) (s : ByteArray) (hs : s.size ≤ maxLen) : (Instr.lookup 103 (.map (some b)) (.string s) false).run Tryz.prog w = .ok (.bool (among ls s)) w := by
  obtain ⟨v, ps, hrun, hv⟩ := World.ownsMap.lookup (t := 103) (e := 4) h K9 u103 (z := .bool false) (by kernel_rfl) (plainElem_bool Tryz.underlying4 false) (keyOf_string_mk Tryz.underlying9 hs); rw [hrun]; have h2 : (setOf yes (keysOf ls)).atKey (lit s) no = .lit (.bool (among ls s)) := at_among ls s; have h3 : plainElem (H := Unit) Tryz.prog 4 v = some (.lit (.bool (among ls s)), ps) := by rw [hv]; exact congrArg (fun z => some (z, ps)) h2
  obtain ⟨x, rfl, hx⟩ := bool_inv Tryz.underlying4 h3; have hb : among ls s = x := congrArg (fun z : DataW Unit × List MemPlace => bof z.1) hx; rw [hb]
theorem lm_put {w : World} {b : Nat} {ls : List ByteArray} (h : LM w b ls) (s : ByteArray) (hs : s.size ≤ maxLen) (hn : ls.length < maxLen) : ∃ w', (Instr.mapUpdate 103 (.map (some b)) (.string s) (.bool true)).run Tryz.prog w = .ok () w' ∧ LM w' b (ls ++ [s]) ∧ w.grownBy w' (some b) := by
  obtain ⟨w', h1, h2, h3⟩ := World.ownsMap.update (t := 103) (e := 4) h K9 u103 hn (key := .string s) (val := .bool true) (keyOf_string_mk Tryz.underlying9 hs) (plainElem_bool Tryz.underlying4 true); refine ⟨w', h1, ?_, h3⟩; unfold LM; have e : setOf yes (keysOf (ls ++ [s])) = (setOf yes (keysOf ls)).put (lit s) yes := by unfold keysOf; rw [List.map_append]; exact Maps.setOf_snoc _ _ _
  rw [e, List.length_append]; exact h2
def labelsOk : List ByteArray → Nat → Bool
  | _, 0 => true
  | ls, j + 1 => labelsOk ls j && (nameOk (ls.getD j ByteArray.empty) && !among (ls.take j) (ls.getD j ByteArray.empty))
theorem take_snoc (ls : List ByteArray) (j : Nat) (hj : j < ls.length) : ls.take j ++ [ls.getD j ByteArray.empty] = ls.take (j + 1) := by
  rw [List.take_add_one, List.getD_eq_getElem?_getD, List.getElem?_eq_getElem hj]; rfl
theorem size_ok (ls : List ByteArray) : ∀ j, j ≤ ls.length → labelsOk ls j = true → Maps.size (setOf yes (keysOf (ls.take j))) = j
  | 0, _, _ => by simp [keysOf, setOf]; rfl
  | j + 1, hj, h => by
    unfold labelsOk at h; rw [Bool.and_eq_true, Bool.and_eq_true] at h; have ih := size_ok ls j (by omega) h.1; have ha : among (ls.take j) (ls.getD j ByteArray.empty) = false := by simpa using h.2.2
    rw [← take_snoc ls j (by omega)]; have e : setOf yes (keysOf (ls.take j ++ [ls.getD j ByteArray.empty])) = (setOf yes (keysOf (ls.take j))).put (lit (ls.getD j ByteArray.empty)) yes := by unfold keysOf; rw [List.map_append]; exact Maps.setOf_snoc _ _ _
    rw [e, Maps.size_put (Maps.tidy_setOf _ _ (keys_lit _)), has_among, ha, ih]; rfl
theorem lm_len {w : World} {b : Nat} {ls : List ByteArray} (h : LM w b ls) (hn : labelsOk ls ls.length = true) (ty : TypeId) : (Builtin.len_ #[103] ty #[.map (some b)]).run Tryz.prog w = .ok (.int .i64 ls.length) w := by
  have h1 := World.ownsMap.len (t := 103) (e := 4) h u103 ty; have h2 := size_ok ls ls.length (Nat.le_refl _) hn; rw [List.take_length] at h2; rw [h1, h2]
theorem name_size {s : ByteArray} (h : nameOk s = true) : s.size ≤ maxLen := by
  unfold nameOk at h; rw [Bool.and_eq_true, Bool.and_eq_true] at h; have := of_decide_eq_true h.2.1; have : (12 : Nat) ≤ maxLen := by decide
  omega
theorem wp_lmput {w : World} {ops : Array Oper} {rest : List Oper} {o : Oper} {a : Act} {Q : Exit → Act → World → Prop} {b : Nat} {ls : List ByteArray} (h : LM w b ls) (s : ByteArray) (hs : s.size ≤ maxLen) (hn : ls.length < maxLen)
    (m x v : Operand) (hg : o.guard = none) (hop : o.op = Op.mapUpdate 103 m x v) (hm : a.eval m = .map (some b)) (hx : a.eval x = .string s) (hv : a.eval v = .bool true)
    (hK : ∀ w', LM w' b (ls ++ [s]) → w.grownBy w' (some b) → wpList Tryz.prog ops Q rest (a.put o.dst undef) w') : wpList Tryz.prog ops Q (o :: rest) a w := by
  refine wpList_plain hg fun K' hK' => ?_; obtain ⟨w', hrun, r1, r2⟩ := lm_put h s hs hn; unfold Oper.wp; simp [execOp, hop, hm, hx, hv, hrun, Result.andThen]; exact hK' _ _ (hK w' r1 r2)
theorem labels_no {ls : List ByteArray} {j : Nat} (h : labelsOk ls j = false) : ∀ n, j ≤ n → labelsOk ls n = false
  | 0, hj => by rw [show j = 0 by omega] at h; exact h
  | n + 1, hj => by
    by_cases e : j = n + 1
    · rw [← e]; exact h
    · unfold labelsOk; rw [labels_no h n (by omega)]; rfl
def mayBlkL (lb : List ByteArray) (l : List S24) (x : S24) : Bool := labelsOk lb lb.length && (mayBlk l x && decide (lb.length ≤ 60))
theorem name_calls (s : ByteArray) (w : World) : Calls Tryz.prog 55 #[.string s] w fun e w' => e = .returned (.bool (nameOk s)) ∧ Dr_ w w' := isa_Name2.calls 40 s _ w (isa_name (Nat.le_refl _) s)
theorem lb_cell {w : World} {A : Option Addr} {ls : List ByteArray} (h : Kd.C Kd.string w A ls.length ls) (i : Nat) (hi : i < ls.length) : ∃ ad, A = some ad ∧ w.cell? (ad.add i) = some (.string (ls.getD i ByteArray.empty)) := by
  obtain ⟨ad, e, h1⟩ := Kd.at_string h (i : Int) (Int.natCast_nonneg _) (by omega); refine ⟨ad, e, ?_⟩; have h2 : rdOf ByteArray.empty ls (i : Int) = ls.getD i ByteArray.empty := by unfold rdOf; simp
  rw [← h2]; exact h1
theorem block_May.calls (g : Nat) (A0 : Option Addr) (c0 : Nat) (lb : List ByteArray) (Al : Option Addr) (cl cp : Nat) (l : List S24) (x : S24) (w : World) (hg : w.heap[g]? = some (.cells #[.slice A0 lb.length c0, .slice Al l.length cl, .int .i64 x.f0, .int .i64 x.f1, .int .i64 x.f2, .int .i64 x.f3, .int .i64 x.f4, .string x.f5] 41 (0, 0)))
    (hb : Kd.C Kd.string w A0 lb.length lb) (hcb : lb.length ≤ c0) (hmb : lb.length ≤ 1000000000) (hl : Kd.C k24 w Al l.length l) (hcl : l.length ≤ cl) (hmx : l.length ≤ 1000000000) :
    Calls Tryz.prog 31 #[.slice (some ⟨g, 0, none⟩) 1 cp] w fun e w' => e = .returned (.bool (mayBlkL lb l x)) ∧ Below w.heap.size w w' := by
  have hu41 := Tryz.underlying41; have hu24 := Tryz.underlying24; have hmm := @run_makeMap_plain Tryz.prog; have HG := aM_ hg; have HL := aM_ hl; have HN := aM_ hb; clear hg hl hb; go_enter Tryz.func31, Tryz.ntmps31; go_wp2; have HM := aM_ (lm_new w); have HB := aM_ (bA_ (Below.refl w.heap.size w) (.map #[] 0)); generalize hmp : w.heap.size = mp at HM HB ⊢; generalize w.alloc (.map #[] 0) = wM at HM HB ⊢
  go_loopw [4, 12] (fun v i wr => ∃ j : Nat, j ≤ 1 ∧ i = .int .i64 j ∧ v = .int .i64 (if j = 0 then 0 else totB l x) ∧ As_ (j = 1 → labelsOk lb lb.length = true ∧ mayBlk l x = decide (totB l x ≤ 200)) ∧ As_ (LM wr mp (if j = 0 then [] else lb)) ∧ As_ (Below mp w wr)) (fun _ i _ => 1 - (intOf i).toNat)
  case atStart => exact ⟨0, by omega, rfl, rfl, ⟨fun h => by cases h⟩, ⟨HM.out⟩, ⟨HB.out⟩⟩
  case round =>
    clear HM HB; obtain ⟨j, hj, rfl, rfl, HJ, HM, HB⟩ := hrel
    by_cases hlt : j = 0
    · subst hlt; have HG1 := aM_ ((HB.out.block g (by rw [← hmp]; exact blk_lt HG.out)).trans HG.out); have hx0 : wr.cell? ⟨g, 0, none⟩ = some (.slice A0 lb.length c0) := (bC_ HG1.out 0).trans rfl; have hx1 : wr.cell? ⟨g, 1, none⟩ = some (.slice Al l.length cl) := (bC_ HG1.out 1).trans rfl; have hx2 : wr.cell? ⟨g, 2, none⟩ = some (.int .i64 x.f0) := (bC_ HG1.out 2).trans rfl; have hx3 : wr.cell? ⟨g, 3, none⟩ = some (.int .i64 x.f1) := (bC_ HG1.out 3).trans rfl; have hx4 : wr.cell? ⟨g, 4, none⟩ = some (.int .i64 x.f2) := (bC_ HG1.out 4).trans rfl; have hx5 : wr.cell? ⟨g, 5, none⟩ = some (.int .i64 x.f3) := (bC_ HG1.out 5).trans rfl; have hx6 : wr.cell? ⟨g, 6, none⟩ = some (.int .i64 x.f4) := (bC_ HG1.out 6).trans rfl; have hx7 : wr.cell? ⟨g, 7, none⟩ = some (.string x.f5) := (bC_ HG1.out 7).trans rfl; go_wp2; have HX := aM_ (blk_new wr (.cells #[.slice A0 lb.length c0, .slice Al l.length cl, .int .i64 x.f0, .int .i64 x.f1, .int .i64 x.f2, .int .i64 x.f3, .int .i64 x.f4, .string x.f5] 41 (0, 0))); have hb1 := bA_ (Below.refl wr.heap.size wr) (.cells #[.slice A0 lb.length c0, .slice Al l.length cl, .int .i64 x.f0, .int .i64 x.f1, .int .i64 x.f2, .int .i64 x.f3, .int .i64 x.f4, .string x.f5] 41 (0, 0)); have hmle : mp ≤ wr.heap.size := by rw [← hmp]; exact HB.out.size
      have HM1 := aM_ (lm_below HM.out hb1 (lm_lt HM.out)); have HB1 := aM_ (HB.out.trans (hb1.mono hmle)); have hmlt : mp < wr.heap.size := lm_lt HM.out; clear hb1 HM HB HG1 hx0 hx1 hx2 hx3 hx4 hx5 hx6 hx7; generalize wr.heap.size = gx at HX hmle hmlt ⊢; generalize wr.alloc (.cells #[.slice A0 lb.length c0, .slice Al l.length cl, .int .i64 x.f0, .int .i64 x.f1, .int .i64 x.f2, .int .i64 x.f3, .int .i64 x.f4, .string x.f5] 41 (0, 0)) = W1 at HX HM1 HB1 ⊢; have x00 : W1.cell? ⟨gx, 0, none⟩ = some (.slice A0 lb.length c0) := (bC_ HX.out 0).trans rfl; go_wp2; clear x00
      go_loopw [19] (fun v wi => ∃ i : Nat, i ≤ lb.length ∧ v = .int .i64 i ∧ As_ (labelsOk lb i = true) ∧ As_ (LM wi mp (lb.take i)) ∧ As_ (wi.heap[gx]? = some (.cells #[.slice A0 lb.length c0, .slice Al l.length cl, .int .i64 x.f0, .int .i64 x.f1, .int .i64 x.f2, .int .i64 x.f3, .int .i64 x.f4, .string x.f5] 41 (0, 0))) ∧ As_ (Below mp w wi)) (fun v _ => lb.length - (intOf v).toNat)
      case atStart => exact ⟨0, Nat.zero_le _, rfl, ⟨rfl⟩, ⟨HM1.out⟩, ⟨HX.out⟩, ⟨HB1.out⟩⟩
      case round =>
        clear HM1 HX HB1; obtain ⟨i, hi, rfl, HO, HM1, HX, HB1⟩ := hrel
        rename World => W2
        by_cases hil : i < lb.length
        · have q1 : ((i : Int) < (lb.length : Int)) = True := eq_true (by omega); have p1 : ((0 : Int) ≤ (i : Int)) = True := eq_true (Int.natCast_nonneg _); obtain ⟨adb, eb, xb⟩ := lb_cell (Kd.C_below HN.out (by rw [hmp]; exact HB1.out)) i hil; subst eb; have hw2 : wrap64 ((i : Int) + 1) = ((i + 1 : Nat) : Int) := by unfold wrap64; omega
          have HT := aM_ (take_snoc lb i hil); have HLO : As_ (labelsOk lb (i + 1) = (labelsOk lb i && (nameOk (lb.getD i ByteArray.empty) && !among (lb.take i) (lb.getD i ByteArray.empty)))) := ⟨rfl⟩
          have hlen : (lb.take i).length < maxLen := by rw [List.length_take]; simp only [maxLen]; omega
          have HIL := aM_ hil; clear hil; generalize lb.getD i ByteArray.empty = s at HT HLO xb; have HC := aM_ (name_calls s W2)
          cases hn : nameOk s with
          | false =>
            rw [hn] at HC
            go_wp2_with (go_at_call 55; refine HC.out.mono ?_; rintro e w' ⟨rfl, ⟨nd, rfl⟩⟩)
            go_ret
            exact ⟨by unfold mayBlkL; rw [labels_no (by rw [HLO.out, hn]; simp) lb.length HIL.out]; rfl, by rw [hmp]; exact bN_ HB1.out nd⟩
          | true =>
            rw [hn] at HC; have HS := aM_ (name_size hn)
            cases ha : among (lb.take i) s with
            | true =>
              go_wp2_with (go_at_call 55; refine HC.out.mono ?_; rintro e w' ⟨rfl, ⟨nd, rfl⟩⟩; have hlk := lm_look (w := W2.drewN nd) HM1.out s HS.out; rw [ha] at hlk)
              go_ret
              exact ⟨by unfold mayBlkL; rw [labels_no (by rw [HLO.out, ha]; simp) lb.length HIL.out]; rfl, by rw [hmp]; exact bN_ HB1.out nd⟩
            | false =>
              go_wp2_with (first | (go_at_call 55; refine HC.out.mono ?_; rintro e w' ⟨rfl, ⟨nd, rfl⟩⟩; have HM2 := aM_ (show LM (W2.drewN nd) mp (lb.take i) from HM1.out); have HX2 := aM_ (kB_ HX.out (bN_ (Below.refl _ W2) nd)); have HB2 := aM_ (bN_ HB1.out nd); have hlk := lm_look HM2.out s HS.out; rw [ha] at hlk) | (at_mapUpdate; refine wp_lmput HM2.out s HS.out hlen _ _ _ rfl rfl rfl rfl rfl ?_; intro w4 HM4 HG4; rw [HT.out] at HM4; have HM5 := aM_ HM4; have HX5 := aM_ (blk_grown HX2.out HG4 (by intro h_; injection h_ with h_; omega)); have HB5 := aM_ (pw_below_grown HB2.out _ (Nat.le_trans hmle (Nat.le_of_lt (blk_lt HX2.out))) HG4 (by intro k_ h_; injection h_ with h_; omega)); clear HM4 HG4))
              refine ⟨⟨i + 1, HIL.out, by first | rfl | rw [hw2], ⟨by rw [HLO.out, HO.out, hn, ha]; rfl⟩, ⟨HM5.out⟩, ⟨HX5.out⟩, ⟨HB5.out⟩⟩, ?_⟩; have := HIL.out
              try rw [hw2]
              show lb.length - (((i + 1 : Nat) : Int)).toNat < lb.length - ((i : Int)).toNat; rw [Int.toNat_natCast, Int.toNat_natCast]; omega
        · obtain rfl : i = lb.length := by omega
          have q1 : ((lb.length : Int) < (lb.length : Int)) = False := eq_false (by omega); rw [List.take_length] at HM1; have hmlt2 : mp < W2.heap.size := lm_lt HM1.out; have x1 : W2.cell? ⟨gx, 1, none⟩ = some (.slice Al l.length cl) := (bC_ HX.out 1).trans rfl; have HC := aM_ (aI57_56057.calls (62 + l.length) Al cl l _ W2 (Kd.C_below HL.out (by rw [hmp]; exact HB1.out)) hcl (contains_eq l hmx))
          cases hp : allPlain l with
          | false =>
            rw [hp] at HC
            go_wp2_with (go_at_call 56; refine HC.out.mono ?_; rintro e w' ⟨rfl, hb⟩; have HB2 := aM_ hb; clear hb)
            go_ret
            exact ⟨by simp [mayBlkL, mayBlk, hp], by rw [hmp]; exact HB1.out.trans (HB2.out.mono (Nat.le_trans hmle (Nat.le_of_lt (blk_lt HX.out))))⟩
          | true =>
            rw [hp] at HC; have HP := aM_ hp; clear hp; have hwl : wrap64 (0 + (l.length : Int)) = (l.length : Int) := by unfold wrap64; omega
            cases hz : zeroI x with
            | true =>
              have z1 : (x.f0 == 0 && (x.f1 == 0 && (x.f2 == 0 && (x.f3 == 0 && (x.f4 == 0 && x.f5.toList.isEmpty))))) = true := hz
              go_wp2_with (go_at_call 56; refine HC.out.mono ?_; rintro e w' ⟨rfl, hb⟩; have HX2 := aM_ (kB_ HX.out hb); have HM2 := aM_ (lm_below HM1.out hb hmlt2); have HB2 := aM_ (HB1.out.trans (hb.mono (Nat.le_trans hmle (Nat.le_of_lt (blk_lt HX.out))))); clear hb x1; have y1 : w'.cell? ⟨gx, 1, none⟩ = some (.slice Al l.length cl) := (bC_ HX2.out 1).trans rfl; have y2 : w'.cell? ⟨gx, 2, none⟩ = some (.int .i64 x.f0) := (bC_ HX2.out 2).trans rfl; have y3 : w'.cell? ⟨gx, 3, none⟩ = some (.int .i64 x.f1) := (bC_ HX2.out 3).trans rfl; have y4 : w'.cell? ⟨gx, 4, none⟩ = some (.int .i64 x.f2) := (bC_ HX2.out 4).trans rfl; have y5 : w'.cell? ⟨gx, 5, none⟩ = some (.int .i64 x.f3) := (bC_ HX2.out 5).trans rfl; have y6 : w'.cell? ⟨gx, 6, none⟩ = some (.int .i64 x.f4) := (bC_ HX2.out 6).trans rfl; have y7 : w'.cell? ⟨gx, 7, none⟩ = some (.string x.f5) := (bC_ HX2.out 7).trans rfl)
              refine ⟨⟨1, Nat.le_refl _, by first | rfl | (congr 1), by simp [totB, hz], ⟨fun _ => ⟨HO.out, by simp [mayBlk, totB, hz, HP.out]; omega⟩⟩, ⟨HM2.out⟩, ⟨HB2.out⟩⟩, by simp [intOf]⟩
            | false =>
              have z1 : (x.f0 == 0 && (x.f1 == 0 && (x.f2 == 0 && (x.f3 == 0 && (x.f4 == 0 && x.f5.toList.isEmpty))))) = false := hz; have hw2 : wrap64 ((l.length : Int) + 1) = (l.length : Int) + 1 := by unfold wrap64; omega
              have HI := aM_ (fun W => isa_IsIns.calls 50 x.f0 x.f1 x.f2 x.f3 x.f4 x.f5 _ W (isa_ins_eq (Nat.le_refl _) x.f0 x.f1 x.f2 x.f3 x.f4 x.f5))
              cases hI : okI x with
              | false =>
                have hI' : insOk x.f0 x.f1 x.f2 x.f3 x.f4 x.f5 = false := hI; rw [hI'] at HI; clear hI'
                go_wp2_with (first | (go_at_call 56; refine HC.out.mono ?_; rintro e w' ⟨rfl, hb⟩; have HX2 := aM_ (kB_ HX.out hb); have HM2 := aM_ (lm_below HM1.out hb hmlt2); have HB2 := aM_ (HB1.out.trans (hb.mono (Nat.le_trans hmle (Nat.le_of_lt (blk_lt HX.out))))); clear hb x1; have y1 : w'.cell? ⟨gx, 1, none⟩ = some (.slice Al l.length cl) := (bC_ HX2.out 1).trans rfl; have y2 : w'.cell? ⟨gx, 2, none⟩ = some (.int .i64 x.f0) := (bC_ HX2.out 2).trans rfl; have y3 : w'.cell? ⟨gx, 3, none⟩ = some (.int .i64 x.f1) := (bC_ HX2.out 3).trans rfl; have y4 : w'.cell? ⟨gx, 4, none⟩ = some (.int .i64 x.f2) := (bC_ HX2.out 4).trans rfl; have y5 : w'.cell? ⟨gx, 5, none⟩ = some (.int .i64 x.f3) := (bC_ HX2.out 5).trans rfl; have y6 : w'.cell? ⟨gx, 6, none⟩ = some (.int .i64 x.f4) := (bC_ HX2.out 6).trans rfl; have y7 : w'.cell? ⟨gx, 7, none⟩ = some (.string x.f5) := (bC_ HX2.out 7).trans rfl) | (go_at_call 59; refine (HI.out _).mono ?_; rintro e w3 ⟨rfl, hb⟩; have HB3 := aM_ hb; clear hb))
                go_ret
                exact ⟨by simp [mayBlkL, mayBlk, HP.out, hz, hI], by rw [hmp]; exact HB2.out.trans (HB3.out.mono (Nat.le_trans hmle (Nat.le_of_lt (blk_lt HX2.out))))⟩
              | true =>
                have hI' : insOk x.f0 x.f1 x.f2 x.f3 x.f4 x.f5 = true := hI; rw [hI'] at HI; clear hI'
                go_wp2_with (first | (go_at_call 56; refine HC.out.mono ?_; rintro e w' ⟨rfl, hb⟩; have HX2 := aM_ (kB_ HX.out hb); have HM2 := aM_ (lm_below HM1.out hb hmlt2); have HB2 := aM_ (HB1.out.trans (hb.mono (Nat.le_trans hmle (Nat.le_of_lt (blk_lt HX.out))))); clear hb x1; have y1 : w'.cell? ⟨gx, 1, none⟩ = some (.slice Al l.length cl) := (bC_ HX2.out 1).trans rfl; have y2 : w'.cell? ⟨gx, 2, none⟩ = some (.int .i64 x.f0) := (bC_ HX2.out 2).trans rfl; have y3 : w'.cell? ⟨gx, 3, none⟩ = some (.int .i64 x.f1) := (bC_ HX2.out 3).trans rfl; have y4 : w'.cell? ⟨gx, 4, none⟩ = some (.int .i64 x.f2) := (bC_ HX2.out 4).trans rfl; have y5 : w'.cell? ⟨gx, 5, none⟩ = some (.int .i64 x.f3) := (bC_ HX2.out 5).trans rfl; have y6 : w'.cell? ⟨gx, 6, none⟩ = some (.int .i64 x.f4) := (bC_ HX2.out 6).trans rfl; have y7 : w'.cell? ⟨gx, 7, none⟩ = some (.string x.f5) := (bC_ HX2.out 7).trans rfl) | (go_at_call 59; refine (HI.out _).mono ?_; rintro e w3 ⟨rfl, hb⟩; have HM3 := aM_ (lm_below HM2.out hb (lm_lt HM2.out)); have HX3 := aM_ (kB_ HX2.out hb); have y22 : w3.cell? ⟨gx, 2, none⟩ = some (.int .i64 x.f0) := (bC_ HX3.out 2).trans rfl; have HB3 := aM_ (HB2.out.trans (hb.mono (Nat.le_trans hmle (Nat.le_of_lt (blk_lt HX2.out))))); clear hb) | (go_at_call 60; refine (isa_Ends.calls x.f0 _ _ (ends_eq x.f0)).mono ?_; rintro e w4 ⟨rfl, ⟨nd, rfl⟩⟩; have HB4 := aM_ (bN_ HB3.out nd); cases hE : endsOp x.f0))
                · go_ret; exact ⟨by simp [mayBlkL, mayBlk, HP.out, hz, hI, hE], by rw [hmp]; exact HB4.out⟩
                · refine ⟨⟨1, Nat.le_refl _, by first | rfl | (congr 1), by simp [totB, hz], ⟨fun _ => ⟨HO.out, by simp [mayBlk, totB, hz, HP.out, hI, hE]; omega⟩⟩, ⟨HM3.out⟩, ⟨HB4.out⟩⟩, by simp [intOf]⟩
    · obtain rfl : j = 1 := by omega
      have hLO := aM_ (HJ.out rfl).1; have hJ := (HJ.out rfl).2; have hm0 : LM wr mp lb := HM.out; rw [if_neg (by decide)]; have ht0 : 0 ≤ totB l x := by unfold totB; split <;> omega
      have q1 : (((1 : Nat) : Int) < 1) = False := eq_false (by omega)
      by_cases hT : totB l x ≤ 200
      · have c1 : (totB l x ≤ 200) = True := eq_true hT; have c2 : decide (totB l x ≤ 200) = true := decide_eq_true hT; clear hT; rw [c2] at hJ; have HJ2 := aM_ hJ; clear hJ HJ; have hlm : ∀ ty, (Builtin.len_ #[103] ty #[.map (some mp)]).run Tryz.prog wr = .ok (.int .i64 (lb.length : Nat)) wr := fun ty => lm_len hm0 hLO.out ty
        by_cases h60 : lb.length ≤ 60
        · have c3 : ((lb.length : Int) ≤ 60) = True := eq_true (by omega); have H60 := aM_ (decide_eq_true h60); clear h60; go_wp2; go_ret; exact ⟨by unfold mayBlkL; rw [hLO.out, HJ2.out, H60.out]; rfl, by rw [hmp]; exact HB.out⟩
        · have c3 : ((lb.length : Int) ≤ 60) = False := eq_false (by omega); have H60 := aM_ (decide_eq_false h60); clear h60; go_wp2; go_ret; exact ⟨by unfold mayBlkL; rw [H60.out]; simp, by rw [hmp]; exact HB.out⟩
      · have c1 : (totB l x ≤ 200) = False := eq_false hT; have c2 : decide (totB l x ≤ 200) = false := decide_eq_false hT; clear hT; rw [c2] at hJ; have HJ2 := aM_ hJ; clear hJ HJ; go_wp2; go_ret; exact ⟨by unfold mayBlkL; rw [HJ2.out]; simp, by rw [hmp]; exact HB.out⟩
end Go.Proofs.YtibfkkjkahpobaaGreat.PDag
end
section
namespace Go.Proofs.YtibfkkjkahpobaaGreat.PDag
attribute [local go_sem] Oper.semAt_some
def sched_Of.f (k : Nat) (lb : List ByteArray) (l : List S24) (a2 a3 a4 a5 a6 : Int) (a7 : ByteArray) : Option (List S62 × Int) :=
  if lb.length ≤ 1000000000 ∧ l.length ≤ 1000000000 then some (if mayBlkL lb l ⟨a2, a3, a4, a5, a6, a7⟩ = true then (bunF l ⟨a2, a3, a4, a5, a6, a7⟩, 0) else ([], 1)) else none
theorem mayBlkL_some {lb : List ByteArray} {l : List S24} {x : S24} (h : mayBlkL lb l x = true) : mayBlk l x = true := by
  unfold mayBlkL at h; simp only [Bool.and_eq_true] at h; exact h.2.1
theorem mayBlk_parts {l : List S24} {x : S24} (h : mayBlk l x = true) : okA l ∧ l.length ≤ 200 ∧ 0 ≤ x.f0 ∧ x.f0 ≤ 33 := by
  unfold mayBlk at h; rw [Bool.and_eq_true] at h; have ho : okA l := fun y hy => plain_ok (List.all_eq_true.1 h.1 y hy); refine ⟨ho, ?_⟩; split at h
  · rename_i hz
    have h2 := of_decide_eq_true h.2; unfold zeroI at hz; simp only [Bool.and_eq_true, beq_iff_eq] at hz; exact ⟨h2, by omega⟩
  · have h2 := h.2; simp only [Bool.and_eq_true, decide_eq_true_eq] at h2; have h3 := okI_op h2.1; exact ⟨by omega, h3⟩
theorem sched_Of.calls (k : Nat) (A0_0 : Option Addr) (c0_0 : Nat) (l0_0 : List ByteArray) (A0_1 : Option Addr) (c0_1 : Nat) (l0_1 : List S24) (a0_2 a0_3 a0_4 a0_5 a0_6 : Int) (a0_7 : ByteArray) (r1 : List S62) (r2 : Int) (w : World)
    (hr0_0 : Kd.C Kd.string w A0_0 l0_0.length l0_0) (hc0_0 : l0_0.length ≤ c0_0) (hr0_1 : Kd.C k24 w A0_1 l0_1.length l0_1) (hc0_1 : l0_1.length ≤ c0_1) (h : sched_Of.f k l0_0 l0_1 a0_2 a0_3 a0_4 a0_5 a0_6 a0_7 = some (r1, r2)) :
    Calls Tryz.prog 8 #[.agg #[.slice A0_0 l0_0.length c0_0, .slice A0_1 l0_1.length c0_1, .int .i64 a0_2, .int .i64 a0_3, .int .i64 a0_4, .int .i64 a0_5, .int .i64 a0_6, .string a0_7]] w fun e w' => ∃ v0_ : Value, e = .returned (.tuple #[v0_, .int .i64 r2]) ∧ Kd.R k62 62 w' w.heap.size (fun _ => True) v0_ r1 ∧ Below w.heap.size w w' := by
  have hu41 := Tryz.underlying41; have hu24 := Tryz.underlying24; unfold sched_Of.f at h; split at h
  · rename_i hg
    obtain ⟨hlb, hlen⟩ := hg; have h := Option.some.inj h; have HL := aM_ hr0_1; have HN := aM_ hr0_0; generalize hx : (⟨a0_2, a0_3, a0_4, a0_5, a0_6, a0_7⟩ : S24) = x at h; have e2 : a0_2 = x.f0 := by rw [← hx]
    have e3 : a0_3 = x.f1 := by rw [← hx]
    have e4 : a0_4 = x.f2 := by rw [← hx]
    have e5 : a0_5 = x.f3 := by rw [← hx]
    have e6 : a0_6 = x.f4 := by rw [← hx]
    have e7 : a0_7 = x.f5 := by rw [← hx]
    clear hx; subst e2 e3 e4 e5 e6 e7; have HM := aM_ (fun W gx hg hN hC => block_May.calls gx A0_0 c0_0 l0_0 A0_1 c0_1 1 l0_1 x W hg hN hc0_0 hlb hC hc0_1 hlen); clear hr0_0 hr0_1
    cases hm : mayBlkL l0_0 l0_1 x with
    | false =>
      rw [hm] at h HM; simp only [Bool.false_eq_true, if_false, Prod.mk.injEq] at h; obtain ⟨rfl, rfl⟩ := h; clear hm; go_enter Tryz.func8, Tryz.ntmps8
      go_wp2_with (first | ((with_reducible refine gate_dst (N := 1) rfl ?_); refine bX_ (N := 1) (cs := #[.slice A0_0 l0_0.length c0_0, .slice A0_1 l0_1.length c0_1, .int .i64 x.f0, .int .i64 x.f1, .int .i64 x.f2, .int .i64 x.f3, .int .i64 x.f4, .string x.f5]) (t := 41) ?_; intro gb hgb w1 hbox hb; have x0 : w1.cell? ⟨gb, 0, none⟩ = some (.slice A0_0 l0_0.length c0_0) := (bC_ hbox 0).trans rfl; have x1 : w1.cell? ⟨gb, 1, none⟩ = some (.slice A0_1 l0_1.length c0_1) := (bC_ hbox 1).trans rfl; have x2 : w1.cell? ⟨gb, 2, none⟩ = some (.int .i64 x.f0) := (bC_ hbox 2).trans rfl; have x3 : w1.cell? ⟨gb, 3, none⟩ = some (.int .i64 x.f1) := (bC_ hbox 3).trans rfl; have x4 : w1.cell? ⟨gb, 4, none⟩ = some (.int .i64 x.f2) := (bC_ hbox 4).trans rfl; have x5 : w1.cell? ⟨gb, 5, none⟩ = some (.int .i64 x.f3) := (bC_ hbox 5).trans rfl; have x6 : w1.cell? ⟨gb, 6, none⟩ = some (.int .i64 x.f4) := (bC_ hbox 6).trans rfl; have x7 : w1.cell? ⟨gb, 7, none⟩ = some (.string x.f5) := (bC_ hbox 7).trans rfl; have BX := aM_ hbox; have HB := aM_ hb; have HAL := aM_ (bA_ (Below.refl w1.heap.size w1) (.cells #[.slice A0_0 l0_0.length c0_0, .slice A0_1 l0_1.length c0_1, .int .i64 x.f0, .int .i64 x.f1, .int .i64 x.f2, .int .i64 x.f3, .int .i64 x.f4, .string x.f5] 41)); have HNB := aM_ (blk_new w1 (.cells #[.slice A0_0 l0_0.length c0_0, .slice A0_1 l0_1.length c0_1, .int .i64 x.f0, .int .i64 x.f1, .int .i64 x.f2, .int .i64 x.f3, .int .i64 x.f4, .string x.f5] 41)); have HB15 := aM_ (hb.trans (HAL.out.mono hb.size)); clear hbox hb hgb) | (go_at_call 31; refine (HM.out _ w1.heap.size HNB.out (Kd.C_below HN.out HB15.out) (Kd.C_below HL.out HB15.out)).mono ?_; rintro e w3 ⟨rfl, hb⟩; have HB2 := aM_ (HB15.out.trans (hb.mono HB15.out.size)); have BX2 := aM_ (kB_ (kB_ BX.out HAL.out) hb); clear hb x0 x1 x2 x3 x4 x5 x6 x7))
      go_ret2
      exact ⟨_, rfl, Kd.R_nil _ _ _ _ _, HB2.out⟩
    | true =>
      rw [hm] at h HM; simp only [if_true, Prod.mk.injEq] at h; obtain ⟨rfl, rfl⟩ := h; obtain ⟨ho, hn, hx0⟩ := mayBlk_parts (mayBlkL_some hm); have HO := aM_ ho; clear hm ho; go_enter Tryz.func8, Tryz.ntmps8
      go_wp2_with (first | ((with_reducible refine gate_dst (N := 1) rfl ?_); refine bX_ (N := 1) (cs := #[.slice A0_0 l0_0.length c0_0, .slice A0_1 l0_1.length c0_1, .int .i64 x.f0, .int .i64 x.f1, .int .i64 x.f2, .int .i64 x.f3, .int .i64 x.f4, .string x.f5]) (t := 41) ?_; intro gb hgb w1 hbox hb; have x0 : w1.cell? ⟨gb, 0, none⟩ = some (.slice A0_0 l0_0.length c0_0) := (bC_ hbox 0).trans rfl; have x1 : w1.cell? ⟨gb, 1, none⟩ = some (.slice A0_1 l0_1.length c0_1) := (bC_ hbox 1).trans rfl; have x2 : w1.cell? ⟨gb, 2, none⟩ = some (.int .i64 x.f0) := (bC_ hbox 2).trans rfl; have x3 : w1.cell? ⟨gb, 3, none⟩ = some (.int .i64 x.f1) := (bC_ hbox 3).trans rfl; have x4 : w1.cell? ⟨gb, 4, none⟩ = some (.int .i64 x.f2) := (bC_ hbox 4).trans rfl; have x5 : w1.cell? ⟨gb, 5, none⟩ = some (.int .i64 x.f3) := (bC_ hbox 5).trans rfl; have x6 : w1.cell? ⟨gb, 6, none⟩ = some (.int .i64 x.f4) := (bC_ hbox 6).trans rfl; have x7 : w1.cell? ⟨gb, 7, none⟩ = some (.string x.f5) := (bC_ hbox 7).trans rfl; have BX := aM_ hbox; have HB := aM_ hb; have HAL := aM_ (bA_ (Below.refl w1.heap.size w1) (.cells #[.slice A0_0 l0_0.length c0_0, .slice A0_1 l0_1.length c0_1, .int .i64 x.f0, .int .i64 x.f1, .int .i64 x.f2, .int .i64 x.f3, .int .i64 x.f4, .string x.f5] 41)); have HNB := aM_ (blk_new w1 (.cells #[.slice A0_0 l0_0.length c0_0, .slice A0_1 l0_1.length c0_1, .int .i64 x.f0, .int .i64 x.f1, .int .i64 x.f2, .int .i64 x.f3, .int .i64 x.f4, .string x.f5] 41)); have HB15 := aM_ (hb.trans (HAL.out.mono hb.size)); clear hbox hb hgb) | (go_at_call 31; refine (HM.out _ w1.heap.size HNB.out (Kd.C_below HN.out HB15.out) (Kd.C_below HL.out HB15.out)).mono ?_; rintro e w3 ⟨rfl, hb⟩; have HB2 := aM_ (HB15.out.trans (hb.mono HB15.out.size)); have BX2 := aM_ (kB_ (kB_ BX.out HAL.out) hb); clear hb x0 x1 x2 x3 x4 x5 x6 x7; have y0 : w3.cell? ⟨gb, 0, none⟩ = some (.slice A0_0 l0_0.length c0_0) := (bC_ BX2.out 0).trans rfl; have y1 : w3.cell? ⟨gb, 1, none⟩ = some (.slice A0_1 l0_1.length c0_1) := (bC_ BX2.out 1).trans rfl; have y2 : w3.cell? ⟨gb, 2, none⟩ = some (.int .i64 x.f0) := (bC_ BX2.out 2).trans rfl; have y3 : w3.cell? ⟨gb, 3, none⟩ = some (.int .i64 x.f1) := (bC_ BX2.out 3).trans rfl; have y4 : w3.cell? ⟨gb, 4, none⟩ = some (.int .i64 x.f2) := (bC_ BX2.out 4).trans rfl; have y5 : w3.cell? ⟨gb, 5, none⟩ = some (.int .i64 x.f3) := (bC_ BX2.out 5).trans rfl; have y6 : w3.cell? ⟨gb, 6, none⟩ = some (.int .i64 x.f4) := (bC_ BX2.out 6).trans rfl; have y7 : w3.cell? ⟨gb, 7, none⟩ = some (.string x.f5) := (bC_ BX2.out 7).trans rfl) | (go_at_call 32; refine (sched_Bundles.calls A0_0 l0_0.length c0_0 A0_1 c0_1 l0_1 x _ (Kd.C_below HL.out HB2.out) hc0_1 HO.out hn hx0).mono ?_; rintro e w4 ⟨v9, rfl, hR, hb⟩; have HR := aM_ hR; have HB3 := aM_ hb; clear hR hb))
      go_ret2
      exact ⟨_, rfl, Kd.R_lower HR.out HB2.out.size, HB2.out.trans (HB3.out.mono HB2.out.size)⟩
  · exact absurd h (by simp)
end Go.Proofs.YtibfkkjkahpobaaGreat.PDag
end
section
-- the texts that this claim needs, out of this session's and its print's (wip/shrink.py)
namespace Go.Den
open Go Go.RowKit Go.Proofs Go.Proofs.YtibfkkjkahpobaaGreatW.PrintWords Go.Proofs.YtibfkkjkahpobaaGreat.PDag
def xOf (b : S41) : List S62 := if mayBlkL b.f0 b.f1 b.f2 = true then bunF b.f1 b.f2 else []
theorem o8 (b : S41) (h0 : b.f0.length ≤ 1000000000) (h1 : b.f1.length ≤ 1000000000) : CallStep Tryz.prog 8 [.agg (kBlk.flat (f41 b))] [] (.tup [(false, [.own 0]), (false, [.int .i64 (if mayBlkL b.f0 b.f1 b.f2 = true then 0 else 1)])]) [.row 62 kBun ((xOf b).map f62)] := by
  refine CallStep.mkOwn ⟨_, _, Tryz.func8, by kernel_rfl, rfl⟩ fun U ρ w vs ha => ?_; obtain ⟨v, rfl, hv⟩ := vs1 ha; obtain ⟨A0, c0, A1, c1, rfl, b1, b2, b3, b4⟩ := blkArg hv
  have hf : sched_Of.f 0 b.f0 b.f1 b.f2.f0 b.f2.f1 b.f2.f2 b.f2.f3 b.f2.f4 b.f2.f5 = some (xOf b, if mayBlkL b.f0 b.f1 b.f2 = true then 0 else 1) := by
    unfold sched_Of.f xOf; rw [if_pos ⟨h0, h1⟩]; split <;> rfl
  refine Calls.mono (sched_Of.calls 0 A0 c0 b.f0 A1 c1 b.f1 _ _ _ _ _ _ _ _ w b2 b1 b4 b3 hf) ?_; rintro e w' ⟨v0, rfl, hR, hB⟩; refine ⟨_, v0, rfl, hB, fun g hg => ?_, fun U1 ρ1 hU hρ => ⟨br62.ownRow hR (fun a h1 h2 h3 h4 => ?_) hρ, ⟨_, rfl, ?_⟩⟩⟩
  · obtain ⟨inner, ho⟩ := Kd.R_own hR; exact ⟨own_base ho g hg, own_lt ho g hg⟩
  · rcases hU a h4 with h | h
    · omega
    · exact h3 h
  · refine All2.cons ⟨_, rfl, ?_⟩ (All2.cons ⟨_, rfl, rfl⟩ All2.nil); obtain ⟨A, c, rfl⟩ := Kd.R_slice hR; exact ⟨rfl, Nat.zero_lt_one, fun k hk => hρ.symm⟩
theorem o9 (l : List S24) (h1 : l.length ≤ 1000000000) : CallStep Tryz.prog 9 [.one (.row 24 kIns (l.map f24))] [] (.tup [(false, [.row 3 kI (if mayL l = true then (cycF l).at_ else [])]), (false, [.row 3 kI (if mayL l = true then (cycF l).sl else [])]), (false, [.int .i64 (if mayL l = true then 0 else 1)])]) [] := by
  refine CallStep.mk1 ⟨_, _, Tryz.func9, by kernel_rfl, rfl⟩ fun U ρ w vs ha => ?_; obtain ⟨v, rfl, hv⟩ := vs1 ha; obtain ⟨A, c, rfl, b1, b2⟩ := br24.argRow (e := 24) (xs := l) hv
  have hf : sched_Cycles.f 0 l = some (if mayL l = true then (cycF l).at_ else [], if mayL l = true then (cycF l).sl else [], if mayL l = true then 0 else 1) := by
    unfold sched_Cycles.f; rw [if_pos h1]; split <;> rfl
  refine Calls.mono (sched_Cycles.calls 0 A c l _ _ _ w b2 b1 hf) ?_; rintro e w' ⟨v0, v1, rfl, hR0, hR1, hB⟩; refine ⟨_, rfl, hB, fun U1 hU => ⟨_, rfl, All2.cons ⟨_, rfl, ?_⟩ (All2.cons ⟨_, rfl, ?_⟩ (All2.cons ⟨_, rfl, rfl⟩ All2.nil))⟩⟩
  · exact (brInts .i64 3).made (base := w.heap.size) (ok := fun _ => True) ⟨v0, rfl, Kd.R_mono hR0 fun _ _ => trivial⟩ fun a h1 h2 _ h3 => by have := hU a h3; omega
  · exact (brInts .i64 3).made (base := w.heap.size) (ok := fun _ => True) ⟨v1, rfl, Kd.R_mono hR1 fun _ _ => trivial⟩ fun a h1 h2 _ h3 => by have := hU a h3; omega
end Go.Den
end
section
namespace Go.Proofs.YtibfkkjkahpobaaGreat.PDag
attribute [local go_sem] max2_int min2_int max_two min_two max_three min_three max_four min_four
end Go.Proofs.YtibfkkjkahpobaaGreat.PDag
end
section
namespace Go.Proofs.YtibfkkjkahpobaaGreat.PDag
attribute [local go_sem] max2_int min2_int max_two min_two max_three min_three max_four min_four
end Go.Proofs.YtibfkkjkahpobaaGreat.PDag
end
section
namespace Go.Proofs.YtibfkkjkahpobaaGreat.PDag
theorem Ev.all {α : Type} {g : Nat → Option α} {r : α} {K : Nat} (h : ∀ k, K ≤ k → g k = some r) : Ev g r := ⟨K, h⟩
section
variable {l : List S24} (ho : okA l) (hn : l.length ≤ 200) (x : PSt) (c s : Int) (hg : PGood l.length c x) (c0 : 0 ≤ c) (c1 : c ≤ 1000) (s0 : 0 ≤ s) (s1 : s ≤ 3) (r : List Int × List Int)
def bst (l : List S24) (x : PSt) (c s : Int) (i : Nat) : Int := bestUp (cand (mayAt l) (edges l) x.at_ c s) (urges l) (heights l) i
end
end Go.Proofs.YtibfkkjkahpobaaGreat.PDag
end
