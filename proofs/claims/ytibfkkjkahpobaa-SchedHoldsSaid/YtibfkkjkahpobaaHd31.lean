import Derived.Test.YtibfkkjkahpobaaHd30
import Derived.Test.YtibfkkjkahpobaaHd1
import Derived.Test.YtibfkkjkahpobaaHd15
import Derived.Test.YtibfkkjkahpobaaHd21
import Derived.Test.YtibfkkjkahpobaaHd20
import Derived.Test.YtibfkkjkahpobaaHd22
import Derived.Test.YtibfkkjkahpobaaHd24
set_option linter.unusedVariables false
set_option linter.unusedSimpArgs false
set_option maxHeartbeats 8000000
set_option maxRecDepth 100000
section
-- the texts that this claim needs, out of this session's and its print's (wip/shrink.py)
namespace Go.Den
open Go Go.RowKit
inductive OT where
  | done
  | none
  | alt (i : Nat) (t r : OT)
def OT.heads : OT → List Nat
  | .alt i _ r => i :: r.heads
  | _ => []
def OT.some_ : OT → Bool
  | .none => false
  | _ => true
def ordChk (ops : Array Oper) : OT → Array Bool → Nat → Bool
  | .alt i t r, l, n => match n with
    | 0 => false
    | m + 1 => !(Region.ready .any ops l).isEmpty && t.some_ && ((Region.ready .any ops (l.setIfInBounds i true)).all fun j => t.heads.any fun i => nb i j) && ordChk ops t (l.setIfInBounds i true) m && ordChk ops r l (m + 1)
  | _, _, _ => true
def ordW (P : Program) (tb : Tb) (ops : Array Oper) (K : St → Prop) : OT → St → Prop
  | .done, σ => K σ
  | .none, _ => True
  | .alt i t r, σ => (match ops[i]? with
    | some o => stepA P tb ops false o σ fun s h1 => σ.put o.dst s h1 fun σ' => ordW P tb ops K t σ'
    | none => False) ∧ ordW P tb ops K r σ
section
variable {P : Program} {cx : Cx} {σ : St} {ops : Array Oper} {tb : Tb} {Q : Exit → Act → World → Prop}
end
attribute [simp] ordW
def closeC (h : List Blk) (c : C) : Option C := match closeArg h (.one c) with
  | some (.one c') => some c'
  | _ => none
def closeParts (h : List Blk) : List (Bool × List C) → Option (List (Bool × List C))
  | [] => some []
  | (false, [c]) :: r => match closeC h c, closeParts h r with
    | some c', some r' => some ((false, [c']) :: r')
    | _, _ => none
  | _ => none
def closeRes (h : List Blk) : S → Option S
  | .tup l => (closeParts h l).map .tup
  | s => closeArg h s
section
variable {P : Program} {U U1 : Nat → Prop} {ρ ρ1 : Nat → Value} {h h1 : List Blk} {w : World}
theorem closeArg_wr (ρ1 : Nat → Value) (h1 : List Blk) {s s' : S} {v : Value} (hc : closeArg h s = some s') (hr : HR U ρ h w) (hs : SR U ρ h w s v) : SR (fun b => U b ∧ ¬ Wr ρ h b) ρ1 h1 w s' v :=
  closeArg_ok ρ1 h1 hc hr (fun b _ hb => hb.1) (fun id g _ hp hu => hu.2 ⟨id, hp⟩) hs
theorem closeParts_wr (ρ1 : Nat → Value) (h1 : List Blk) (hr : HR U ρ h w) : ∀ (l : List (Bool × List C)) {l' : List (Bool × List C)} {vs : List Value}, closeParts h l = some l' → All2 (PartR U ρ h w) l vs → All2 (PartR (fun b => U b ∧ ¬ Wr ρ h b) ρ1 h1 w) l' vs
  | [], l', vs, hc, ha => by
    obtain rfl := Option.some.inj hc
    rw [ha.left_nil]; exact All2.nil
  | (b, cs) :: r, l', vs, hc, ha => by
    obtain ⟨v, vs', rfl, h2, h3⟩ := ha.left_cons; unfold closeParts at hc; split at hc <;> try (cases hc; done)
    · rename_i he; cases he
    · rename_i c r0 he
      cases he
      split at hc <;> try (cases hc; done)
      rename_i c' r' e1 e2
      obtain rfl := Option.some.inj hc; refine All2.cons ?_ (closeParts_wr ρ1 h1 hr r e2 h3); unfold closeC at e1; split at e1 <;> try (cases e1; done)
      rename_i c'' e3
      obtain rfl := Option.some.inj e1; obtain ⟨c0, e4, hcr⟩ := h2; obtain rfl := List.singleton_inj.1 e4; exact ⟨_, rfl, closeArg_wr ρ1 h1 e3 hr hcr⟩
theorem CallStep.froz {f : Nat} {xs : List S} {s s' : S} {H1 : List Blk} (hs : CallStep P f xs [] s H1) (hc : closeRes H1 s = some s') : CallStep P f xs [] s' [] := by
  refine ⟨hs.enters, fun U ρ w vs hr ha => ?_⟩; refine Calls.mono (hs.calls U ρ w vs hr ha) ?_; rintro e w' ⟨v, U1, ρ1, rfl, g, hsr⟩; have hno : ∀ b, ¬ Wr ρ [] b := fun b ⟨i, hi⟩ => by simp [place] at hi
  refine ⟨v, fun b => U1 b ∧ ¬ Wr ρ1 H1 b, ρ, rfl, ⟨g.agree, fun b hb hu => g.less b hb hu.1, fun b hb hu => ?_, HR.empty _ _ _, Ext.refl _ _, fun i g hi => by simp [place] at hi⟩, ?_⟩
  · rcases g.keep b hb hu with h | h
    · refine .inl ⟨h, fun ⟨i, hi⟩ => ?_⟩; rcases g.places i b hi with h' | h'
      · exact hno b h'
      · omega
    · exact absurd h (hno b)
  · unfold closeRes at hc; split at hc
    · obtain ⟨l', e1, rfl⟩ := Option.map_eq_some_iff.1 hc; obtain ⟨vs, e2, ha2⟩ := hsr; exact ⟨vs, e2, closeParts_wr ρ [] g.hr _ e1 ha2⟩
    · exact closeArg_wr ρ [] hc g.hr hsr
end
end Go.Den
end
section
-- the texts that this claim needs, out of this session's and its print's (wip/shrink.py)
namespace Go.Den
open Go Go.RowKit
theorem W.seqTo {P : Program} {cx : Cx} {σ : St} {c y : Code} {Q : Exit → St → Prop} (σ1 : St) (h : W P cx c σ (then_ Q fun σ' => Le cx σ' σ1)) (hk : W P cx y σ1 Q) : W P cx (.seq c y) σ Q :=
  W.seq (h.mono fun e σ' he => by
    cases e with
    | normal => exact W.le he hk
    | _ => exact he)
end Go.Den
end
section
-- the texts that this claim needs, out of this session's and its print's (wip/shrink.py)
namespace Go.Den
open Go Go.RowKit
abbrev Gh := (Nat → Prop) → (Nat → Value) → List Blk → World → Prop
structure GhOk (M : Gh) : Prop where
  stay : ∀ {U : Nat → Prop} {ρ : Nat → Value} {h : List Blk} {w : World} {U1 : Nat → Prop} {ρ1 : Nat → Value} {h1 : List Blk} {w1 : World}, HR U ρ h w → M U ρ h w → Go1 U ρ h w U1 ρ1 h1 w1 → M U1 ρ1 h1 w1
  cut : ∀ {U : Nat → Prop} {ρ : Nat → Value} {h : List Blk} {w : World} (src : List Nat), (∀ i ∈ src, i < h.length) → (∀ i g, place (ρcut ρ src) (heapCut src h) i = some g → Wr ρ h g) → M U ρ h w → M U (ρcut ρ src) (heapCut src h) w
def gh0 : Gh := fun _ _ _ _ => True
theorem gh0_ok : GhOk gh0 := ⟨fun _ _ _ => trivial, fun _ _ _ _ => trivial⟩
def RG (cx : Cx) (M : Gh) (σ : St) (a : Act) (w : World) : Prop := ∃ U ρ, R0 cx U ρ σ a w ∧ M U ρ σ.heap w
def WG (P : Program) (cx : Cx) (c : Code) (σ : St) (M : Gh) (Q : Exit → St → Gh → Prop) : Prop := ∀ a w, RG cx M σ a w → c.wp P (fun e a' w' => ∃ σ' M', Q e σ' M' ∧ RG cx M' σ' a' w') a w
def thenG (Q : Exit → St → Gh → Prop) (K : St → Gh → Prop) : Exit → St → Gh → Prop
  | .normal, σ, M => K σ M
  | e, σ, M => Q e σ M
def LeG (cx : Cx) (σ : St) (M : Gh) (σ1 : St) (M1 : Gh) : Prop := ∀ a w, RG cx M σ a w → RG cx M1 σ1 a w
section
variable {P : Program} {cx : Cx} {σ : St} {M : Gh} {ops : Array Oper} {tb : Tb}
theorem RG.r {a : Act} {w : World} (h : RG cx M σ a w) : R cx σ a w := by
  obtain ⟨U, ρ, r, _⟩ := h; exact ⟨U, ρ, r⟩
theorem WG.seq {x y : Code} {Q : Exit → St → Gh → Prop} (hw : WG P cx x σ M (thenG Q fun σ' M' => WG P cx y σ' M' Q)) : WG P cx (.seq x y) σ M Q := fun a w r => by
  refine wp_seq (wp_mono (hw a w r) fun e a' w' h => ?_); obtain ⟨σ', M', h, r'⟩ := h
  cases e with
  | normal => exact h a' w' r'
  | _ => exact ⟨σ', M', h, r'⟩
theorem WG.skip {Q : Exit → St → Gh → Prop} (h : Q .normal σ M) : WG P cx .skip σ M Q := fun a w r => wp_skip ⟨σ, M, h, r⟩
theorem WG.ret {Q : Exit → St → Gh → Prop} (h : Q .ret σ M) : WG P cx .ret σ M Q := fun a w r => wp_ret ⟨σ, M, h, r⟩
theorem WG.exit {id : Nat} {Q : Exit → St → Gh → Prop} (h : Q (.exit id) σ M) : WG P cx (.exit id) σ M Q := fun a w r => wp_exit ⟨σ, M, h, r⟩
def inBlkG (id : Nat) (Q : Exit → St → Gh → Prop) : Exit → St → Gh → Prop
  | .exit id', σ, M => bif nb id' id then Q .normal σ M else Q (.exit id') σ M
  | e, σ, M => Q e σ M
theorem WG.block {id : Nat} {c : Code} {Q : Exit → St → Gh → Prop} (h : WG P cx c σ M (inBlkG id Q)) : WG P cx (.block id c) σ M Q := fun a w r => by
  refine wp_block (wp_mono (h a w r) fun e a' w' h => ?_); obtain ⟨σ', M', h, r'⟩ := h
  cases e with
  | exit id' =>
    show if id' = id then _ else _
    by_cases e : id' = id
    · subst e; rw [if_pos rfl]; refine ⟨σ', M', ?_, r'⟩; simpa [inBlkG] using h
    · rw [if_neg e]; refine ⟨σ', M', ?_, r'⟩; have : nb id' id = false := by cases hb : nb id' id; rfl; exact absurd (nb_eq hb) e
      simpa [inBlkG, this] using h
  | _ => exact ⟨σ', M', h, r'⟩
theorem WG.if_ {c : Operand} {x y : Code} {Q : Exit → St → Gh → Prop} (b : Bool) (hb : σ.ev c = .one (.bool b)) (h1 : b = true → WG P cx x σ M Q) (h2 : b = false → WG P cx y σ M Q) : WG P cx (.cond c x y) σ M Q := fun a w r => by
  have hv : a.eval c = .bool b := by
    obtain ⟨U, ρ, r0, _⟩ := r; have := r0.ev c; rw [hb] at this; exact this
  exact wp_cond_split hv (fun e => h1 e a w r) (fun e => h2 e a w r)
theorem WG.le {c : Code} {σ1 : St} {M1 : Gh} {Q : Exit → St → Gh → Prop} (hl : LeG cx σ M σ1 M1) (h : WG P cx c σ1 M1 Q) : WG P cx c σ M Q := fun a w r => h a w (hl a w r)
theorem WG.loop {α : Type} {c : Code} {Q : Exit → St → Gh → Prop} (I : α → St) (J : α → Gh) (μ : α → Nat) (Φ : α → Prop) (x : α) (hx : Φ x) (h0 : LeG cx σ M (I x) (J x)) (round : ∀ x, Φ x → WG P cx c (I x) (J x) (thenG Q fun σ' M' => ∃ y, Φ y ∧ LeG cx σ' M' (I y) (J y) ∧ μ y < μ x)) : WG P cx (.loop c) σ M Q := fun a w r => by
  have key : ∀ n x, μ x < n → Φ x → ∀ a w, RG cx (J x) (I x) a w → Code.rounds P c (fun e a' w' => ∃ σ' M', Q e σ' M' ∧ RG cx M' σ' a' w') n a w := by
    intro n
    induction n with
    | zero => intro x h; omega
    | succ n ih =>
      intro x hn hx a w r; refine wp_mono (round x hx a w r) fun e a' w' h => ?_; obtain ⟨σ', M', h, r'⟩ := h
      cases e with
      | normal =>
        obtain ⟨y, hy, hl, hlt⟩ := h
        exact ih y (by omega) hy a' w' (hl a' w' r')
      | _ => exact ⟨σ', M', h, r'⟩
  exact wp_loop_rounds _ (key _ x (Nat.lt_succ_self _) hx a w (h0 a w r))
theorem WG.toW {c : Code} {Q : Exit → St → Prop} (h : WG P cx c σ gh0 fun e σ' _ => Q e σ') : W P cx c σ Q := fun a w ⟨U, ρ, r⟩ =>
  wp_mono (h a w ⟨U, ρ, r, trivial⟩) fun e a' w' ⟨σ', M', h, r'⟩ => ⟨σ', h, r'.r⟩
theorem LeG.to {σ' σ1 : St} {n0 : Nat} (hM : GhOk M) (src : List Nat) (hcx : cx.h0.length = n0) (hs : srcOk src n0 σ'.heap.length = true) (h : keepsC src σ' σ1 σ1.env) : LeG cx σ' M σ1 M := fun a w ⟨U, ρ, r, m⟩ => by
  subst hcx; obtain ⟨⟨h1, h2⟩, h3⟩ := keepsC_get _ h; obtain ⟨hl, hhr, hex, hpl⟩ := cut_all (Z := fun g => (cx.W0 g ∨ cx.w0.heap.size ≤ g) ∧ Wr ρ σ'.heap g) hs r.hr r.ext fun i g hi => ⟨r.places i g hi, i, hi⟩
  have r1 : R0 cx U (ρcut ρ src) (σ'.cut (σ1.env.map Prod.fst) src) a w := ⟨r.size, r.defers, fun t => by
    rcases look_cut (src := src) (σ := σ') (σ1.env.map Prod.fst) t with e | e
    · show SR U (ρcut ρ src) (heapCut src σ'.heap) w (look ((σ1.env.map Prod.fst).map fun t => (t, (σ'.get t).ren src)) t) (a.tmps.getD t undef); rw [e]; exact (r.env t).ren hl
    · show SR U (ρcut ρ src) (heapCut src σ'.heap) w (look ((σ1.env.map Prod.fst).map fun t => (t, (σ'.get t).ren src)) t) (a.tmps.getD t undef)
      rw [e]; trivial, hhr, r.agree, r.newU, r.oldU, fun i g hi => (hpl i g hi).1, hex⟩
  refine ⟨U, ρcut ρ src, r1.of_get h1 h2 h3, ?_⟩; rw [← h1]; exact hM.cut src hl (fun i g hi => (hpl i g hi).2) m
def RunG (P : Program) (ops : Array Oper) (cx : Cx) (is : List Nat) (σ : St) (M : Gh) (Q : Exit → St → Gh → Prop) : Prop := ∀ a w, RG cx M σ a w → wpOps P ops (fun e a' w' => ∃ σ' M', Q e σ' M' ∧ RG cx M' σ' a' w') is a w
def opsA (P : Program) (tb : Tb) (ops : Array Oper) : List Oper → St → (St → Prop) → Prop
  | [], σ, K => K σ
  | o :: r, σ, K => stepA P tb ops (asg o.dst r) o σ fun s h1 => σ.put o.dst s h1 fun σ' => opsA P tb ops r σ' K
theorem stepG_ok {Q : Exit → Act → World → Prop} (tok : TbOk P tb) (hM : GhOk M) {ow : Bool} {i : Nat} {o : Oper} {K : St → Prop} {K' : Act → World → Prop} (hi : ops[i]? = some o) (hw : stepA P tb ops ow o σ fun s h1 => σ.put o.dst s h1 K) {a : Act} {w : World} (r : RG cx M σ a w)
    (hk : ∀ σ' a' w', K σ' → RG cx M σ' a' w' → K' a' w') : wpOp P ops Q i K' a w := by
  obtain ⟨U, ρ, r0, m⟩ := r; refine stepA_ok tok hi hw r0 fun s h1 v w1 U1 ρ1 hK g hs => ?_; have m1 := hM.stay r0.hr m g; have r1 := r0.step g; unfold St.put at hK
  cases hd : o.dst with
  | none =>
    rw [hd] at hK
    exact hk _ _ _ hK ⟨U1, ρ1, r1, m1⟩
  | some d =>
    rw [hd] at hK; simp only [] at hK
    cases hn : nlt d σ.n with
    | false => rw [hn] at hK; exact hK.elim
    | true =>
      rw [hn] at hK; exact hk _ _ _ hK ⟨U1, ρ1, r1.put (s := s) (nle_le hn) hs, m1⟩
theorem RunG.nil {Q : Exit → St → Gh → Prop} (h : Q .normal σ M) : RunG P ops cx [] σ M Q := fun a w r => ⟨σ, M, h, r⟩
theorem RunG.den {Q : Exit → St → Gh → Prop} (tok : TbOk P tb) (hM : GhOk M) {is : List Nat} (σ1 : St) (hk : RunG P ops cx is σ1 M Q) : ∀ (n i : Nat) (σ : St), i + n ≤ ops.size → opsA P tb ops ((ops.toList.drop i).take n) σ (fun σ' => σ' = σ1) → RunG P ops cx (List.range' i n ++ is) σ M Q
  | 0, i, σ, _, h => by
    rw [List.take_zero] at h; have h : σ = σ1 := h; subst h
    exact hk
  | n + 1, i, σ, hs, h => fun a w r => by
    have hlt : i < ops.toList.length := by rw [Array.length_toList]; omega
    have hi : ops[i]? = some ops.toList[i] := by rw [← Array.getElem?_toList]; exact List.getElem?_eq_getElem hlt
    rw [List.drop_eq_getElem_cons hlt, List.take_succ_cons] at h; rw [List.range'_succ, List.cons_append, wpOps_cons]; refine stepG_ok tok hM hi h r fun σ' a' w' hK r' => ?_; exact RunG.den tok hM σ1 hk n (i + 1) σ' (by omega) hK a' w' r'
theorem WG.reg {id : Nat} {Q : Exit → St → Gh → Prop} (h : RunG P ops cx (List.range' 0 ops.size) σ M Q) : WG P cx (.region id ops false) σ M Q := fun a w r => by
  refine wp_region ?_; rw [List.range_eq_range']; exact h a w r
theorem RunG.raw {Q : Exit → St → Gh → Prop} {i : Nat} {is : List Nat} {o : Oper} {s : S} {h1 : List Blk} {M1 : Gh} (hi : ops[i]? = some o) (hg : o.guard = none)
    (hr : ∀ a w U ρ, R0 cx U ρ σ a w → M U ρ σ.heap w → ∃ v w1 U1 ρ1, ((execOp a.eval o).run P w = .ok (.value v) w1) ∧ R0 cx U1 ρ1 { σ with heap := h1 } a w1 ∧ M1 U1 ρ1 h1 w1 ∧ SR U1 ρ1 h1 w1 s v)
    (hd : ∀ d, o.dst = some d → d < σ.n) (hk : RunG P ops cx is { env := putE o.dst s σ.env, heap := h1, n := σ.n } M1 Q) : RunG P ops cx (i :: is) σ M Q := fun a w ⟨U, ρ, r, m⟩ => by
  obtain ⟨v, w1, U1, ρ1, hrun, r1, m1, hs⟩ := hr a w U ρ r m; rw [wpOps_cons]; unfold wpOp; simp only [hi]; have hwant : Region.wanted o (yielded ops a.tmps) = true := by unfold Region.wanted; rw [hg]
  rw [if_pos hwant]; refine .inl ?_; unfold Oper.wp; rw [hrun]; refine hk _ _ ?_
  cases hdd : o.dst with
  | none => exact ⟨U1, ρ1, r1, m1⟩
  | some d => exact ⟨U1, ρ1, r1.put (s := s) (hd d hdd) hs, m1⟩
end
end Go.Den
end
section
-- the texts that this claim needs, out of this session's and its print's (wip/shrink.py)
namespace Go.Den
open Go Go.RowKit Go.Proofs.YtibfkkjkahpobaaW.PrintWords
structure Br {α : Type} (d : Kd α) (k : K) (f : α → k.T) (g : k.T → α) : Prop where
  sz : d.sz = k.sz
  fw : ∀ {w x cs}, d.K w x cs → KR w k (f x) cs
  back : ∀ {w y cs}, KR w k y cs → d.K w (g y) cs
  gf : ∀ x, g (f x) = x
section
variable {α β : Type} {d : Kd α} {d1 : Kd β} {k k1 : K} {f : α → k.T} {g : k.T → α} {f1 : β → k1.T} {g1 : k1.T → β}
theorem Br.int (kk : IntKind) : Br (Kd.int kk) (.int kk) (fun x => x) (fun x => x) := ⟨rfl, fun h => h, fun h => h, fun _ => rfl⟩
theorem Br.bool : Br Kd.bool .bool (fun x => x) (fun x => x) := ⟨rfl, fun h => h, fun h => h, fun _ => rfl⟩
theorem Br.str : Br Kd.string .str (fun x => x) (fun x => x) := ⟨rfl, fun h => h, fun h => h, fun _ => rfl⟩
theorem Br.last (b : Br d k f g) : Br d (.pair k .unit) (fun x => (f x, ())) (fun y => g y.1) :=
  ⟨by rw [b.sz]; rfl, fun {w x cs} h => ⟨cs, [], by simp, b.fw h, rfl⟩, by
    rintro w y cs ⟨c0, c1, rfl, h0, h1⟩; obtain rfl := h1; rw [List.append_nil]
    exact b.back h0, b.gf⟩
theorem Br.pair (b : Br d k f g) (b1 : Br d1 k1 f1 g1) : Br (Kd.pair d d1) (.pair k k1) (fun x => (f x.1, f1 x.2)) (fun y => (g y.1, g1 y.2)) :=
  ⟨by show d.sz + d1.sz = _; rw [b.sz, b1.sz]; rfl, by
    rintro w x cs ⟨c0, c1, rfl, h0, h1⟩; exact ⟨c0, c1, rfl, b.fw h0, b1.fw h1⟩, by
    rintro w y cs ⟨c0, c1, rfl, h0, h1⟩
    exact ⟨c0, c1, rfl, b.back h0, b1.back h1⟩, fun x => by rw [b.gf, b1.gf]⟩
theorem Br.iso (b : Br d k f g) (p : β → α) (q : α → β) (hq : ∀ x, q (p x) = x) (hp : ∀ y, p (q y) = y) : Br (Kd.iso d p) k (fun x => f (p x)) (fun y => q (g y)) :=
  ⟨b.sz, fun h => b.fw h, fun {w y cs} h => by
    show d.K w (p (q (g y))) cs; rw [hp]
    exact b.back h, fun x => by rw [b.gf, hq]⟩
theorem Br.slice (e : Nat) (b : Br d k f g) : Br (Kd.slice e d) (.row e k) (List.map f) (List.map g) := by
  refine ⟨rfl, ?_, ?_, fun xs => ?_⟩
  · rintro w xs cs ⟨A, c, rfl, hc, h1, h2, h3⟩; refine ⟨A, c, ?_, ?_, ?_⟩
    · show _ = [Value.slice A (xs.map f).length c]; rw [List.length_map]
    · show (xs.map f).length ≤ c; rw [List.length_map]; exact hc
    · refine ⟨rfl, ?_, fun hn => ?_⟩
      · show (xs.map f).length ≤ _; rw [List.length_map]; exact h2
      · obtain ⟨ad, e1, h4⟩ := h3 (by rw [List.length_map] at hn; exact hn); refine ⟨ad, e1, fun j p hj => ?_⟩; rw [List.getElem?_map] at hj; obtain ⟨x, hx, rfl⟩ := Option.map_eq_some_iff.1 hj; obtain ⟨c1, h5, h6, h7⟩ := h4 j x hx; refine ⟨c1, h5.trans b.sz, b.fw h6, fun i u hu => ?_⟩; rw [← b.sz]; exact h7 i u hu
  · rintro w ys cs ⟨A, c, rfl, hc, h1, h2, h3⟩; refine ⟨A, c, ?_, ?_, ?_⟩
    · rw [List.length_map]
    · rw [List.length_map]; exact hc
    · refine ⟨rfl, ?_, fun hn => ?_⟩
      · rw [List.length_map]; exact h2
      · obtain ⟨ad, e1, h4⟩ := h3 (by rw [List.length_map] at hn; exact hn); refine ⟨ad, e1, fun j p hj => ?_⟩; rw [List.getElem?_map] at hj; obtain ⟨x, hx, rfl⟩ := Option.map_eq_some_iff.1 hj; obtain ⟨c1, h5, h6, h7⟩ := h4 j x hx; refine ⟨c1, h5.trans b.sz.symm, b.back h6, fun i u hu => ?_⟩; rw [b.sz]; exact h7 i u hu
  · rw [List.map_map]
    conv => rhs; rw [← List.map_id xs]
    exact List.map_congr_left fun x _ => b.gf x
variable {U : Nat → Prop} {w w1 : World} {ρ : Nat → Value} {h : List Blk}
theorem Br.ks (b : Br d k f g) {x : α} {cs : List Value} (hU : ∀ a, a < w.heap.size → ¬ U a) (hk : d.K w x cs) : KS U w k (f x) cs := fun w' ag => b.fw (d.K_below (ag.below hU) hk)
theorem Br.arg (b : Br d k f g) {x : α} {cs : List Value} (hk : KS U w k (f x) cs) : d.K w x cs := by
  have := b.back hk.now; rw [b.gf] at this; exact this
theorem Br.argRow (b : Br d k f g) {e : Nat} {xs : List α} {v : Value} (hk : KS U w (.row e k) (xs.map f) [v]) : ∃ A c, v = .slice A xs.length c ∧ xs.length ≤ c ∧ d.C w A xs.length xs := by
  obtain ⟨A, c, h1, h2, h3⟩ := (b.slice e).arg hk; exact ⟨A, c, List.singleton_inj.1 h1, h2, h3⟩
theorem Br.ofRow (b : Br d k f g) {e : Nat} {xs : List α} {A : Option Addr} {c : Nat} (hU : ∀ a, a < w.heap.size → ¬ U a) (hc : xs.length ≤ c) (hk : d.C w A xs.length xs) : KS U w (.row e k) (xs.map f) [.slice A xs.length c] :=
  (b.slice e).ks hU ⟨A, c, rfl, hc, hk⟩
theorem Br.made (b : Br d k f g) {base : Nat} {ok : Nat → Prop} {x : α} {cs : List Value} (hm : d.M w base ok x cs) (hU : ∀ a, base ≤ a → a < w.heap.size → ok a → ¬ U a) : KS U w k (f x) cs := fun w' ag =>
  b.fw (d.K_of_M (d.M_move (fun a ha => ag.block a ha.2.2.1 (hU a ha.2.1 ha.2.2.1 ha.1)) (d.M_bound hm)))
theorem Br.madeRow (b : Br d k f g) {e base : Nat} {ok : Nat → Prop} {xs : List α} {v : Value} (hm : d.R e w base ok v xs) (hU : ∀ a, base ≤ a → a < w.heap.size → ¬ U a) : KS U w (.row e k) (xs.map f) [v] :=
  (b.slice e).made (base := base) (ok := ok) ⟨v, rfl, hm⟩ fun a h1 h2 _ => hU a h1 h2
theorem Br.ownRow (b : Br d k f g) {e base : Nat} {ok : Nat → Prop} {xs : List α} {v : Value} {id : Nat} (hm : d.R e w base ok v xs) (hU : ∀ a, base ≤ a → a < w.heap.size → some a ≠ v.ownBlock → ¬ U a) (hρ : ρ id = v) : BR U ρ h w id (.row e k (xs.map f)) := by
  obtain ⟨h0, inner, ho, hr⟩ := hm; refine ⟨inner, ?_, ?_⟩
  · rw [hρ, List.length_map, ← b.sz]; exact own_weaken ho (Nat.zero_le _)
  · refine ⟨?_, fun j p hj => ?_⟩
    · rw [List.length_map, ← b.sz]; exact hr.1
    · rw [List.getElem?_map] at hj; obtain ⟨x, hx, rfl⟩ := Option.map_eq_some_iff.1 hj; have := hr.2 j x hx; rw [b.sz] at this; exact b.made this fun a h1 h2 h3 => hU a h1 h2 h3.2
end
theorem CallStep.mk1 {P : Program} {f : FuncId} {xs : List S} {s : S} (en : Enters P f) (hc : ∀ U ρ w (vs : Array Value), All2 (SR U ρ [] w) xs vs.toList → Calls P f vs w fun e w' => ∃ v, e = .returned v ∧ Below w.heap.size w w' ∧ ∀ U1, (∀ b, U1 b → b < w.heap.size) → SR U1 ρ [] w' s v) : CallStep P f xs [] s [] := by
  refine ⟨en, fun U ρ w vs hr ha => Calls.mono (hc U ρ w vs ha) ?_⟩; rintro e w' ⟨v, rfl, hb, hs⟩; refine ⟨v, fun b => U b ∧ b < w.heap.size, ρ, rfl, ⟨Agree.of_below hb, fun b _ h => h.1, fun b hlt h => .inl ⟨h, hlt⟩, ⟨fun id b h => by simp at h, fun i j g h => by simp [place] at h, fun i g h => by simp [place] at h⟩, Ext.refl _ _, fun i g h => by simp [place] at h⟩, hs _ fun b h => h.2⟩
theorem CallStep.mkOwn {P : Program} {f : FuncId} {xs : List S} {s : S} {e : Nat} {k : K} {ys : List k.T} (en : Enters P f) (hc : ∀ U ρ w (vs : Array Value), All2 (SR U ρ [] w) xs vs.toList → Calls P f vs w fun x w' => ∃ v v0, x = .returned v ∧ Below w.heap.size w w' ∧ (∀ g, v0.ownBlock = some g → w.heap.size ≤ g ∧ g < w'.heap.size) ∧
    ∀ U1 ρ1, (∀ b, U1 b → b < w.heap.size ∨ some b = v0.ownBlock) → ρ1 0 = v0 → BR U1 ρ1 [.row e k ys] w' 0 (.row e k ys) ∧ SR U1 ρ1 [.row e k ys] w' s v) : CallStep P f xs [] s [.row e k ys] := by
  refine ⟨en, fun U ρ w vs hr ha => Calls.mono (hc U ρ w vs ha) ?_⟩; rintro x w' ⟨v, v0, rfl, hb, hg, hs⟩
  have hpl : ∀ i g, place (fun _ => v0) [.row e k ys] i = some g → i = 0 ∧ v0.ownBlock = some g := fun i g h => by
    cases i with
    | zero => exact ⟨rfl, h⟩
    | succ i => simp [place] at h
  obtain ⟨h1, h2⟩ := hs (fun b => (U b ∧ b < w.heap.size) ∨ some b = v0.ownBlock) (fun _ => v0) (fun b h => h.imp (fun h => h.2) id) rfl; refine ⟨v, _, fun _ => v0, rfl, ⟨Agree.of_below hb, fun b hlt h => ?_, fun b hlt h => .inl (.inl ⟨h, hlt⟩), ⟨fun id b h => ?_, fun i j g hi hj => ?_, fun i g hi => ?_⟩, ?_, fun i g hi => ?_⟩, h2⟩
  · rcases h with h | h
    · exact h.1
    · have := (hg b h.symm).1; omega
  · cases id with
    | zero => obtain rfl := Option.some.inj h; exact h1
    | succ id => simp at h
  · rw [(hpl i g hi).1, (hpl j g hj).1]
  · obtain ⟨_, h⟩ := hpl i g hi; exact ⟨.inr h.symm, (hg g h).2⟩
  · exact ⟨Nat.zero_le _, fun id k h => by simp at h, fun id h => by simp at h⟩
  · exact .inr (hg g (hpl i g hi).2).1
end Go.Den
end
section
-- the texts that this claim needs, out of this session's and its print's (wip/shrink.py)
namespace Go.Den
open Go Go.RowKit Go.Proofs Go.Proofs.YtibfkkjkahpobaaW.PrintWords Go.Proofs.Ytibfkkjkahpobaa.PDag
@[reducible] def kI : K := .int .i64
@[reducible] def kIns : K := .pair (.int .i64) (.pair (.int .i64) (.pair (.int .i64) (.pair (.int .i64) (.pair (.int .i64) (.pair .str .unit)))))
@[reducible] def kBun : K := .pair kIns (.pair kIns (.pair kIns (.pair kIns .unit)))
@[reducible] def kBlk : K := .pair (.row 9 .str) (.pair (.row 24 kIns) (.pair kIns .unit))
def f24 (x : S24) : kIns.T := (x.f0, x.f1, x.f2, x.f3, x.f4, x.f5, ())
def g24 (y : kIns.T) : S24 := ⟨y.1, y.2.1, y.2.2.1, y.2.2.2.1, y.2.2.2.2.1, y.2.2.2.2.2.1⟩
theorem br24 : Br k24 kIns f24 g24 := Br.iso (Br.pair (Br.int .i64) (Br.pair (Br.int .i64) (Br.pair (Br.int .i64) (Br.pair (Br.int .i64) (Br.pair (Br.int .i64) (Br.last Br.str)))))) (fun x : S24 => (x.f0, x.f1, x.f2, x.f3, x.f4, x.f5)) (fun y => ⟨y.1, y.2.1, y.2.2.1, y.2.2.2.1, y.2.2.2.2.1, y.2.2.2.2.2⟩) (fun _ => rfl) (fun _ => rfl)
def f62 (x : S81) : kBun.T := (f24 x.f0, f24 x.f1, f24 x.f2, f24 x.f3, ())
def g62 (y : kBun.T) : S81 := ⟨g24 y.1, g24 y.2.1, g24 y.2.2.1, g24 y.2.2.2.1⟩
theorem br62 : Br k81 kBun f62 g62 := Br.iso (Br.pair br24 (Br.pair br24 (Br.pair br24 (Br.last br24)))) (fun x : S81 => (x.f0, x.f1, x.f2, x.f3)) (fun y => ⟨y.1, y.2.1, y.2.2.1, y.2.2.2⟩) (fun _ => rfl) (fun _ => rfl)
theorem brStrs : Br (Kd.slice 9 Kd.string) (.row 9 .str) (fun x => x) (fun x => x) := by
  have := Br.slice 9 Br.str; rw [show (List.map fun x : ByteArray => x) = fun x => x from funext fun l => List.map_id' l] at this; exact this
theorem brInts (k : IntKind) (e : Nat) : Br (Kd.slice e (Kd.int k)) (.row e (.int k)) (fun x => x) (fun x => x) := by
  have := Br.slice e (Br.int k); rw [show (List.map fun x : Int => x) = fun x => x from funext fun l => List.map_id' l] at this; exact this
def f41 (x : S73) : kBlk.T := (x.f0, x.f1.map f24, f24 x.f2, ())
def g41 (y : kBlk.T) : S73 := ⟨y.1, y.2.1.map g24, g24 y.2.2.1⟩
theorem br41 : Br k73 kBlk f41 g41 := Br.iso (Br.pair brStrs (Br.pair (Br.slice 24 br24) (Br.last br24))) (fun x : S73 => (x.f0, x.f1, x.f2)) (fun y => ⟨y.1, y.2.1, y.2.2⟩) (fun _ => rfl) (fun _ => rfl)
section
variable {U : Nat → Prop} {ρ : Nat → Value} {h : List Blk} {w : World}
theorem argStrs {xs : List ByteArray} {v : Value} (hk : KS U w (.row 9 .str) xs [v]) : ∃ A c, v = .slice A xs.length c ∧ xs.length ≤ c ∧ Kd.string.C w A xs.length xs := by
  obtain ⟨A, c, h1, h2, h3⟩ := brStrs.arg (x := xs) hk; exact ⟨A, c, List.singleton_inj.1 h1, h2, h3⟩
theorem vs1 {s : S} {vs : Array Value} (ha : All2 (SR U ρ h w) [s] vs.toList) : ∃ v, vs = #[v] ∧ SR U ρ h w s v := by
  obtain ⟨v, vs', h1, h2, h3⟩ := ha.left_cons; obtain rfl := h3.left_nil; exact ⟨v, Array.toList_inj.1 h1, h2⟩
theorem vs2 {s s' : S} {vs : Array Value} (ha : All2 (SR U ρ h w) [s, s'] vs.toList) : ∃ v v', vs = #[v, v'] ∧ SR U ρ h w s v ∧ SR U ρ h w s' v' := by
  obtain ⟨v, vs', h1, h2, h3⟩ := ha.left_cons; obtain ⟨v', vs'', rfl, h4, h5⟩ := h3.left_cons; obtain rfl := h5.left_nil; exact ⟨v, v', Array.toList_inj.1 h1, h2, h4⟩
theorem blkArg {b : S73} {v : Value} (ha : SR U ρ h w (.agg (kBlk.flat (f41 b))) v) : ∃ A0 c0 A1 c1, v = .agg #[.slice A0 b.f0.length c0, .slice A1 b.f1.length c1, .int .i64 b.f2.f0, .int .i64 b.f2.f1, .int .i64 b.f2.f2, .int .i64 b.f2.f3, .int .i64 b.f2.f4, .string b.f2.f5] ∧
    b.f0.length ≤ c0 ∧ Kd.string.C w A0 b.f0.length b.f0 ∧ b.f1.length ≤ c1 ∧ k24.C w A1 b.f1.length b.f1 := by
  obtain ⟨cs, rfl, h1⟩ := ha; obtain ⟨v0, l0, e0, a0, h1⟩ := h1.left_cons; obtain ⟨v1, l1, rfl, a1, h1⟩ := h1.left_cons; obtain ⟨v2, l2, rfl, a2, h1⟩ := h1.left_cons; obtain ⟨v3, l3, rfl, a3, h1⟩ := h1.left_cons; obtain ⟨v4, l4, rfl, a4, h1⟩ := h1.left_cons; obtain ⟨v5, l5, rfl, a5, h1⟩ := h1.left_cons; obtain ⟨v6, l6, rfl, a6, h1⟩ := h1.left_cons; obtain ⟨v7, l7, rfl, a7, h1⟩ := h1.left_cons; obtain rfl := h1.left_nil; obtain ⟨A0, c0, rfl, b1, b2⟩ := argStrs (xs := b.f0) a0; obtain ⟨A1, c1, rfl, b3, b4⟩ := br24.argRow (e := 24) (xs := b.f1) a1; refine ⟨A0, c0, A1, c1, ?_, b1, b2, b3, b4⟩; have : cs = #[.slice A0 b.f0.length c0, .slice A1 b.f1.length c1, v2, v3, v4, v5, v6, v7] := Array.toList_inj.1 e0; rw [this, show v2 = _ from a2, show v3 = _ from a3, show v4 = _ from a4, show v5 = _ from a5, show v6 = _ from a6, show v7 = _ from a7]; rfl
end
end Go.Den
end
section
-- the texts that this claim needs, out of this session's and its print's (wip/shrink.py)
namespace Go.Den
open Go Go.RowKit Go.Proofs
theorem eqv24 {cs ds : List C} {r : Bool} (h : eqZ [.int .i64 0, .int .i64 0, .int .i64 0, .int .i64 0, .int .i64 0, .string ⟨#[]⟩] cs ds = some r) : Try.prog.eqGuardType Try.prog.depth 24 = false ∧ ∀ {U ρ h w xs ys}, All2 (CR U ρ h w) cs xs → All2 (CR U ρ h w) ds ys → (Op.equal 24 (.agg xs.toArray) (.agg ys.toArray)).run Try.prog w = .ok r w := by
  refine ⟨by kernel_rfl, fun {U ρ h' w xs ys} hx hy => ?_⟩; obtain ⟨a0, b0, l0, m0, r0, rfl, rfl, h0, rfl⟩ := eqZ_int h; obtain ⟨a1, b1, l1, m1, r1, rfl, rfl, h1, rfl⟩ := eqZ_int h0; obtain ⟨a2, b2, l2, m2, r2, rfl, rfl, h2, rfl⟩ := eqZ_int h1; obtain ⟨a3, b3, l3, m3, r3, rfl, rfl, h3, rfl⟩ := eqZ_int h2; obtain ⟨a4, b4, l4, m4, r4, rfl, rfl, h4, rfl⟩ := eqZ_int h3; obtain ⟨a5, b5, l5, m5, r5, rfl, rfl, h5, rfl⟩ := eqZ_str h4; obtain ⟨rfl, rfl, rfl⟩ := eqZ_nil h5; obtain ⟨v0, xs, rfl, e0, hx⟩ := hx.left_cons; obtain ⟨v1, xs, rfl, e1, hx⟩ := hx.left_cons; obtain ⟨v2, xs, rfl, e2, hx⟩ := hx.left_cons; obtain ⟨v3, xs, rfl, e3, hx⟩ := hx.left_cons; obtain ⟨v4, xs, rfl, e4, hx⟩ := hx.left_cons; obtain ⟨v5, xs, rfl, e5, hx⟩ := hx.left_cons; obtain rfl := hx.left_nil; obtain ⟨u0, ys, rfl, d0, hy⟩ := hy.left_cons; obtain ⟨u1, ys, rfl, d1, hy⟩ := hy.left_cons; obtain ⟨u2, ys, rfl, d2, hy⟩ := hy.left_cons; obtain ⟨u3, ys, rfl, d3, hy⟩ := hy.left_cons; obtain ⟨u4, ys, rfl, d4, hy⟩ := hy.left_cons; obtain ⟨u5, ys, rfl, d5, hy⟩ := hy.left_cons; obtain rfl := hy.left_nil; rw [show v0 = _ from e0, show v1 = _ from e1, show v2 = _ from e2, show v3 = _ from e3, show v4 = _ from e4, show v5 = _ from e5, show u0 = _ from d0, show u1 = _ from d1, show u2 = _ from d2, show u3 = _ from d3, show u4 = _ from d4, show u5 = _ from d5]; rw [Bool.and_true]; exact Go.Proofs.Ytibfkkjkahpobaa.PDag.eqA24 9998 w a0 b0 a1 b1 a2 b2 a3 b3 a4 b4 a5 b5
def ti3 : TI := ⟨.int .i64, 1, 8, [.int .i64 0], some (.int .i64), q0⟩
theorem ti3_ok : TOk Try.prog 3 ti3 := ⟨by kernel_rfl, by kernel_rfl, by decide +kernel, rfl, fun k hk => by cases hk <;> exact ⟨rfl, rfl⟩, fun h => by cases h⟩
def ti4 : TI := ⟨.bool, 1, 1, [.bool false], some (.bool), q0⟩
theorem ti4_ok : TOk Try.prog 4 ti4 := ⟨by kernel_rfl, by kernel_rfl, by decide +kernel, rfl, fun k hk => by cases hk <;> exact ⟨rfl, rfl⟩, fun h => by cases h⟩
def ti9 : TI := ⟨.str, 1, 16, [.string ⟨#[]⟩], some (.str), q0⟩
theorem ti9_ok : TOk Try.prog 9 ti9 := ⟨by kernel_rfl, by kernel_rfl, by decide +kernel, rfl, fun k hk => by cases hk <;> exact ⟨rfl, rfl⟩, fun h => by cases h⟩
def ti24 : TI := ⟨.st [(0, 3), (1, 3), (2, 3), (3, 3), (4, 3), (5, 9)], 6, 56, [.int .i64 0, .int .i64 0, .int .i64 0, .int .i64 0, .int .i64 0, .string ⟨#[]⟩], some (.pair (.int .i64) (.pair (.int .i64) (.pair (.int .i64) (.pair (.int .i64) (.pair (.int .i64) (.pair .str .unit)))))), eqZ [.int .i64 0, .int .i64 0, .int .i64 0, .int .i64 0, .int .i64 0, .string ⟨#[]⟩]⟩
theorem ti24_ok : TOk Try.prog 24 ti24 := ⟨by kernel_rfl, by kernel_rfl, by decide +kernel, rfl, fun k hk => by cases hk <;> exact ⟨rfl, rfl⟩, eqv24⟩
def ti25 : TI := ⟨.slice 3, 1, 24, [.slice none 0 0], some (.row 3 (.int .i64)), q0⟩
theorem ti25_ok : TOk Try.prog 25 ti25 := ⟨by kernel_rfl, by kernel_rfl, by decide +kernel, rfl, fun k hk => by cases hk <;> exact ⟨rfl, rfl⟩, fun h => by cases h⟩
def ti22 : TI := ⟨.slice 24, 1, 24, [.slice none 0 0], some (.row 24 (.pair (.int .i64) (.pair (.int .i64) (.pair (.int .i64) (.pair (.int .i64) (.pair (.int .i64) (.pair .str .unit))))))), q0⟩
theorem ti22_ok : TOk Try.prog 22 ti22 := ⟨by kernel_rfl, by kernel_rfl, by decide +kernel, rfl, fun k hk => by cases hk <;> exact ⟨rfl, rfl⟩, fun h => by cases h⟩
def ti58 : TI := ⟨.slice 9, 1, 24, [.slice none 0 0], some (.row 9 (.str)), q0⟩
theorem ti58_ok : TOk Try.prog 58 ti58 := ⟨by kernel_rfl, by kernel_rfl, by decide +kernel, rfl, fun k hk => by cases hk <;> exact ⟨rfl, rfl⟩, fun h => by cases h⟩
def ti73 : TI := ⟨.st [(0, 58), (1, 22), (2, 24)], 8, 104, [.slice none 0 0, .slice none 0 0, .int .i64 0, .int .i64 0, .int .i64 0, .int .i64 0, .int .i64 0, .string ⟨#[]⟩], some (.pair (.row 9 (.str)) (.pair (.row 24 (.pair (.int .i64) (.pair (.int .i64) (.pair (.int .i64) (.pair (.int .i64) (.pair (.int .i64) (.pair .str .unit))))))) (.pair (.pair (.int .i64) (.pair (.int .i64) (.pair (.int .i64) (.pair (.int .i64) (.pair (.int .i64) (.pair .str .unit)))))) (.unit)))), q0⟩
theorem ti73_ok : TOk Try.prog 73 ti73 := ⟨by kernel_rfl, by kernel_rfl, by decide +kernel, rfl, fun k hk => by cases hk <;> exact ⟨rfl, rfl⟩, fun h => by cases h⟩
def ti62 : TI := ⟨.slice 73, 1, 24, [.slice none 0 0], some (.row 73 (.pair (.row 9 (.str)) (.pair (.row 24 (.pair (.int .i64) (.pair (.int .i64) (.pair (.int .i64) (.pair (.int .i64) (.pair (.int .i64) (.pair .str .unit))))))) (.pair (.pair (.int .i64) (.pair (.int .i64) (.pair (.int .i64) (.pair (.int .i64) (.pair (.int .i64) (.pair .str .unit)))))) (.unit))))), q0⟩
theorem ti62_ok : TOk Try.prog 62 ti62 := ⟨by kernel_rfl, by kernel_rfl, by decide +kernel, rfl, fun k hk => by cases hk <;> exact ⟨rfl, rfl⟩, fun h => by cases h⟩
def ti32 : TI := ⟨.int .i64, 1, 8, [.int .i64 0], some (.int .i64), q0⟩
theorem ti32_ok : TOk Try.prog 32 ti32 := ⟨by kernel_rfl, by kernel_rfl, by decide +kernel, rfl, fun k hk => by cases hk <;> exact ⟨rfl, rfl⟩, fun h => by cases h⟩
def ti81 : TI := ⟨.arr 4 24, 24, 224, [.int .i64 0, .int .i64 0, .int .i64 0, .int .i64 0, .int .i64 0, .string ⟨#[]⟩, .int .i64 0, .int .i64 0, .int .i64 0, .int .i64 0, .int .i64 0, .string ⟨#[]⟩, .int .i64 0, .int .i64 0, .int .i64 0, .int .i64 0, .int .i64 0, .string ⟨#[]⟩, .int .i64 0, .int .i64 0, .int .i64 0, .int .i64 0, .int .i64 0, .string ⟨#[]⟩], some (.pair (.pair (.int .i64) (.pair (.int .i64) (.pair (.int .i64) (.pair (.int .i64) (.pair (.int .i64) (.pair .str .unit)))))) (.pair (.pair (.int .i64) (.pair (.int .i64) (.pair (.int .i64) (.pair (.int .i64) (.pair (.int .i64) (.pair .str .unit)))))) (.pair (.pair (.int .i64) (.pair (.int .i64) (.pair (.int .i64) (.pair (.int .i64) (.pair (.int .i64) (.pair .str .unit)))))) (.pair (.pair (.int .i64) (.pair (.int .i64) (.pair (.int .i64) (.pair (.int .i64) (.pair (.int .i64) (.pair .str .unit)))))) .unit)))), q0⟩
theorem ti81_ok : TOk Try.prog 81 ti81 := ⟨by kernel_rfl, by kernel_rfl, by decide +kernel, rfl, fun k hk => by cases hk <;> exact ⟨rfl, rfl⟩, fun h => by cases h⟩
def ti65 : TI := ⟨.slice 81, 1, 24, [.slice none 0 0], some (.row 81 (.pair (.pair (.int .i64) (.pair (.int .i64) (.pair (.int .i64) (.pair (.int .i64) (.pair (.int .i64) (.pair .str .unit)))))) (.pair (.pair (.int .i64) (.pair (.int .i64) (.pair (.int .i64) (.pair (.int .i64) (.pair (.int .i64) (.pair .str .unit)))))) (.pair (.pair (.int .i64) (.pair (.int .i64) (.pair (.int .i64) (.pair (.int .i64) (.pair (.int .i64) (.pair .str .unit)))))) (.pair (.pair (.int .i64) (.pair (.int .i64) (.pair (.int .i64) (.pair (.int .i64) (.pair (.int .i64) (.pair .str .unit)))))) .unit))))), q0⟩
theorem ti65_ok : TOk Try.prog 65 ti65 := ⟨by kernel_rfl, by kernel_rfl, by decide +kernel, rfl, fun k hk => by cases hk <;> exact ⟨rfl, rfl⟩, fun h => by cases h⟩
def ti80 : TI := ⟨.arr 4 24, 24, 224, [.int .i64 0, .int .i64 0, .int .i64 0, .int .i64 0, .int .i64 0, .string ⟨#[]⟩, .int .i64 0, .int .i64 0, .int .i64 0, .int .i64 0, .int .i64 0, .string ⟨#[]⟩, .int .i64 0, .int .i64 0, .int .i64 0, .int .i64 0, .int .i64 0, .string ⟨#[]⟩, .int .i64 0, .int .i64 0, .int .i64 0, .int .i64 0, .int .i64 0, .string ⟨#[]⟩], some (.pair (.pair (.int .i64) (.pair (.int .i64) (.pair (.int .i64) (.pair (.int .i64) (.pair (.int .i64) (.pair .str .unit)))))) (.pair (.pair (.int .i64) (.pair (.int .i64) (.pair (.int .i64) (.pair (.int .i64) (.pair (.int .i64) (.pair .str .unit)))))) (.pair (.pair (.int .i64) (.pair (.int .i64) (.pair (.int .i64) (.pair (.int .i64) (.pair (.int .i64) (.pair .str .unit)))))) (.pair (.pair (.int .i64) (.pair (.int .i64) (.pair (.int .i64) (.pair (.int .i64) (.pair (.int .i64) (.pair .str .unit)))))) .unit)))), q0⟩
theorem ti80_ok : TOk Try.prog 80 ti80 := ⟨by kernel_rfl, by kernel_rfl, by decide +kernel, rfl, fun k hk => by cases hk <;> exact ⟨rfl, rfl⟩, fun h => by cases h⟩
def ti51 : TI := ⟨.st [(0, 3), (1, 3), (2, 3)], 3, 24, [.int .i64 0, .int .i64 0, .int .i64 0], some (.pair (.int .i64) (.pair (.int .i64) (.pair (.int .i64) (.unit)))), q0⟩
theorem ti51_ok : TOk Try.prog 51 ti51 := ⟨by kernel_rfl, by kernel_rfl, by decide +kernel, rfl, fun k hk => by cases hk <;> exact ⟨rfl, rfl⟩, fun h => by cases h⟩
def ti31 : TI := ⟨.slice 51, 1, 24, [.slice none 0 0], some (.row 51 (.pair (.int .i64) (.pair (.int .i64) (.pair (.int .i64) (.unit))))), q0⟩
theorem ti31_ok : TOk Try.prog 31 ti31 := ⟨by kernel_rfl, by kernel_rfl, by decide +kernel, rfl, fun k hk => by cases hk <;> exact ⟨rfl, rfl⟩, fun h => by cases h⟩
def ti100 : TI := ⟨.slice 31, 1, 24, [.slice none 0 0], some (.row 31 (.row 51 (.pair (.int .i64) (.pair (.int .i64) (.pair (.int .i64) (.unit)))))), q0⟩
theorem ti100_ok : TOk Try.prog 100 ti100 := ⟨by kernel_rfl, by kernel_rfl, by decide +kernel, rfl, fun k hk => by cases hk <;> exact ⟨rfl, rfl⟩, fun h => by cases h⟩
def ti102 : TI := ⟨.st [(0, 22), (1, 100), (2, 25), (3, 25), (4, 25), (5, 25), (6, 3)], 7, 152, [.slice none 0 0, .slice none 0 0, .slice none 0 0, .slice none 0 0, .slice none 0 0, .slice none 0 0, .int .i64 0], some (.pair (.row 24 (.pair (.int .i64) (.pair (.int .i64) (.pair (.int .i64) (.pair (.int .i64) (.pair (.int .i64) (.pair .str .unit))))))) (.pair (.row 31 (.row 51 (.pair (.int .i64) (.pair (.int .i64) (.pair (.int .i64) (.unit)))))) (.pair (.row 3 (.int .i64)) (.pair (.row 3 (.int .i64)) (.pair (.row 3 (.int .i64)) (.pair (.row 3 (.int .i64)) (.pair (.int .i64) (.unit)))))))), q0⟩
theorem ti102_ok : TOk Try.prog 102 ti102 := ⟨by kernel_rfl, by kernel_rfl, by decide +kernel, rfl, fun k hk => by cases hk <;> exact ⟨rfl, rfl⟩, fun h => by cases h⟩
def ti98 : TI := ⟨.ptr 102, 1, 8, [.pointer none], none, q0⟩
theorem ti98_ok : TOk Try.prog 98 ti98 := ⟨by kernel_rfl, by kernel_rfl, by decide +kernel, rfl, fun k hk => by cases hk <;> exact ⟨rfl, rfl⟩, fun h => by cases h⟩
def ti112 : TI := ⟨.st [(0, 3), (1, 3)], 2, 16, [.int .i64 0, .int .i64 0], some (.pair (.int .i64) (.pair (.int .i64) (.unit))), q0⟩
theorem ti112_ok : TOk Try.prog 112 ti112 := ⟨by kernel_rfl, by kernel_rfl, by decide +kernel, rfl, fun k hk => by cases hk <;> exact ⟨rfl, rfl⟩, fun h => by cases h⟩
def ti108 : TI := ⟨.slice 112, 1, 24, [.slice none 0 0], some (.row 112 (.pair (.int .i64) (.pair (.int .i64) (.unit)))), q0⟩
theorem ti108_ok : TOk Try.prog 108 ti108 := ⟨by kernel_rfl, by kernel_rfl, by decide +kernel, rfl, fun k hk => by cases hk <;> exact ⟨rfl, rfl⟩, fun h => by cases h⟩
def ti5 : TI := ⟨.int .u8, 1, 1, [.int .u8 0], some (.int .u8), q0⟩
theorem ti5_ok : TOk Try.prog 5 ti5 := ⟨by kernel_rfl, by kernel_rfl, by decide +kernel, rfl, fun k hk => by cases hk <;> exact ⟨rfl, rfl⟩, fun h => by cases h⟩
def ti145 : TI := ⟨.st [(0, 9), (1, 24)], 7, 72, [.string ⟨#[]⟩, .int .i64 0, .int .i64 0, .int .i64 0, .int .i64 0, .int .i64 0, .string ⟨#[]⟩], some (.pair .str (.pair (.pair (.int .i64) (.pair (.int .i64) (.pair (.int .i64) (.pair (.int .i64) (.pair (.int .i64) (.pair .str .unit)))))) (.unit))), q0⟩
theorem ti145_ok : TOk Try.prog 145 ti145 := ⟨by kernel_rfl, by kernel_rfl, by decide +kernel, rfl, fun k hk => by cases hk <;> exact ⟨rfl, rfl⟩, fun h => by cases h⟩
def ti136 : TI := ⟨.slice 145, 1, 24, [.slice none 0 0], some (.row 145 (.pair .str (.pair (.pair (.int .i64) (.pair (.int .i64) (.pair (.int .i64) (.pair (.int .i64) (.pair (.int .i64) (.pair .str .unit)))))) (.unit)))), q0⟩
theorem ti136_ok : TOk Try.prog 136 ti136 := ⟨by kernel_rfl, by kernel_rfl, by decide +kernel, rfl, fun k hk => by cases hk <;> exact ⟨rfl, rfl⟩, fun h => by cases h⟩
def ti147 : TI := ⟨.st [(0, 9), (1, 3)], 2, 24, [.string ⟨#[]⟩, .int .i64 0], some (.pair .str (.pair (.int .i64) (.unit))), q0⟩
theorem ti147_ok : TOk Try.prog 147 ti147 := ⟨by kernel_rfl, by kernel_rfl, by decide +kernel, rfl, fun k hk => by cases hk <;> exact ⟨rfl, rfl⟩, fun h => by cases h⟩
def ti137 : TI := ⟨.slice 147, 1, 24, [.slice none 0 0], some (.row 147 (.pair .str (.pair (.int .i64) (.unit)))), q0⟩
theorem ti137_ok : TOk Try.prog 137 ti137 := ⟨by kernel_rfl, by kernel_rfl, by decide +kernel, rfl, fun k hk => by cases hk <;> exact ⟨rfl, rfl⟩, fun h => by cases h⟩
def ti149 : TI := ⟨.st [(0, 9), (1, 4), (2, 3), (3, 4)], 4, 40, [.string ⟨#[]⟩, .bool false, .int .i64 0, .bool false], some (.pair .str (.pair .bool (.pair (.int .i64) (.pair .bool .unit)))), q0⟩
theorem ti149_ok : TOk Try.prog 149 ti149 := ⟨by kernel_rfl, by kernel_rfl, by decide +kernel, rfl, fun k hk => by cases hk <;> exact ⟨rfl, rfl⟩, fun h => by cases h⟩
def ti138 : TI := ⟨.slice 149, 1, 24, [.slice none 0 0], some (.row 149 (.pair .str (.pair .bool (.pair (.int .i64) (.pair .bool .unit))))), q0⟩
theorem ti138_ok : TOk Try.prog 138 ti138 := ⟨by kernel_rfl, by kernel_rfl, by decide +kernel, rfl, fun k hk => by cases hk <;> exact ⟨rfl, rfl⟩, fun h => by cases h⟩
def ti140 : TI := ⟨.st [(0, 136), (1, 137), (2, 138), (3, 58)], 4, 96, [.slice none 0 0, .slice none 0 0, .slice none 0 0, .slice none 0 0], some (.pair (.row 145 (.pair .str (.pair (.pair (.int .i64) (.pair (.int .i64) (.pair (.int .i64) (.pair (.int .i64) (.pair (.int .i64) (.pair .str .unit)))))) (.unit)))) (.pair (.row 147 (.pair .str (.pair (.int .i64) (.unit)))) (.pair (.row 149 (.pair .str (.pair .bool (.pair (.int .i64) (.pair .bool .unit))))) (.pair (.row 9 (.str)) (.unit))))), q0⟩
theorem ti140_ok : TOk Try.prog 140 ti140 := ⟨by kernel_rfl, by kernel_rfl, by decide +kernel, rfl, fun k hk => by cases hk <;> exact ⟨rfl, rfl⟩, fun h => by cases h⟩
def ti59 : TI := ⟨.slice 140, 1, 24, [.slice none 0 0], some (.row 140 (.pair (.row 145 (.pair .str (.pair (.pair (.int .i64) (.pair (.int .i64) (.pair (.int .i64) (.pair (.int .i64) (.pair (.int .i64) (.pair .str .unit)))))) (.unit)))) (.pair (.row 147 (.pair .str (.pair (.int .i64) (.unit)))) (.pair (.row 149 (.pair .str (.pair .bool (.pair (.int .i64) (.pair .bool .unit))))) (.pair (.row 9 (.str)) (.unit)))))), q0⟩
theorem ti59_ok : TOk Try.prog 59 ti59 := ⟨by kernel_rfl, by kernel_rfl, by decide +kernel, rfl, fun k hk => by cases hk <;> exact ⟨rfl, rfl⟩, fun h => by cases h⟩
def ti61 : TI := ⟨.st [(0, 58), (1, 59)], 2, 48, [.slice none 0 0, .slice none 0 0], some (.pair (.row 9 (.str)) (.pair (.row 140 (.pair (.row 145 (.pair .str (.pair (.pair (.int .i64) (.pair (.int .i64) (.pair (.int .i64) (.pair (.int .i64) (.pair (.int .i64) (.pair .str .unit)))))) (.unit)))) (.pair (.row 147 (.pair .str (.pair (.int .i64) (.unit)))) (.pair (.row 149 (.pair .str (.pair .bool (.pair (.int .i64) (.pair .bool .unit))))) (.pair (.row 9 (.str)) (.unit)))))) (.unit))), q0⟩
theorem ti61_ok : TOk Try.prog 61 ti61 := ⟨by kernel_rfl, by kernel_rfl, by decide +kernel, rfl, fun k hk => by cases hk <;> exact ⟨rfl, rfl⟩, fun h => by cases h⟩
def ti64 : TI := ⟨.st [(0, 61), (2, 62)], 3, 72, [.slice none 0 0, .slice none 0 0, .slice none 0 0], some (.pair (.pair (.row 9 (.str)) (.pair (.row 140 (.pair (.row 145 (.pair .str (.pair (.pair (.int .i64) (.pair (.int .i64) (.pair (.int .i64) (.pair (.int .i64) (.pair (.int .i64) (.pair .str .unit)))))) (.unit)))) (.pair (.row 147 (.pair .str (.pair (.int .i64) (.unit)))) (.pair (.row 149 (.pair .str (.pair .bool (.pair (.int .i64) (.pair .bool .unit))))) (.pair (.row 9 (.str)) (.unit)))))) (.unit))) (.pair (.row 73 (.pair (.row 9 (.str)) (.pair (.row 24 (.pair (.int .i64) (.pair (.int .i64) (.pair (.int .i64) (.pair (.int .i64) (.pair (.int .i64) (.pair .str .unit))))))) (.pair (.pair (.int .i64) (.pair (.int .i64) (.pair (.int .i64) (.pair (.int .i64) (.pair (.int .i64) (.pair .str .unit)))))) (.unit))))) (.unit))), q0⟩
theorem ti64_ok : TOk Try.prog 64 ti64 := ⟨by kernel_rfl, by kernel_rfl, by decide +kernel, rfl, fun k hk => by cases hk <;> exact ⟨rfl, rfl⟩, fun h => by cases h⟩
def ti27 : TI := ⟨.st [(0, 22), (1, 24), (7, 25)], 8, 104, [.slice none 0 0, .int .i64 0, .int .i64 0, .int .i64 0, .int .i64 0, .int .i64 0, .string ⟨#[]⟩, .slice none 0 0], some (.pair (.row 24 (.pair (.int .i64) (.pair (.int .i64) (.pair (.int .i64) (.pair (.int .i64) (.pair (.int .i64) (.pair .str .unit))))))) (.pair (.pair (.int .i64) (.pair (.int .i64) (.pair (.int .i64) (.pair (.int .i64) (.pair (.int .i64) (.pair .str .unit)))))) (.pair (.row 3 (.int .i64)) (.unit)))), q0⟩
theorem ti27_ok : TOk Try.prog 27 ti27 := ⟨by kernel_rfl, by kernel_rfl, by decide +kernel, rfl, fun k hk => by cases hk <;> exact ⟨rfl, rfl⟩, fun h => by cases h⟩
def ti67 : TI := ⟨.st [(0, 27), (8, 64), (11, 65)], 12, 200, [.slice none 0 0, .int .i64 0, .int .i64 0, .int .i64 0, .int .i64 0, .int .i64 0, .string ⟨#[]⟩, .slice none 0 0, .slice none 0 0, .slice none 0 0, .slice none 0 0, .slice none 0 0], some (.pair (.pair (.row 24 (.pair (.int .i64) (.pair (.int .i64) (.pair (.int .i64) (.pair (.int .i64) (.pair (.int .i64) (.pair .str .unit))))))) (.pair (.pair (.int .i64) (.pair (.int .i64) (.pair (.int .i64) (.pair (.int .i64) (.pair (.int .i64) (.pair .str .unit)))))) (.pair (.row 3 (.int .i64)) (.unit)))) (.pair (.pair (.pair (.row 9 (.str)) (.pair (.row 140 (.pair (.row 145 (.pair .str (.pair (.pair (.int .i64) (.pair (.int .i64) (.pair (.int .i64) (.pair (.int .i64) (.pair (.int .i64) (.pair .str .unit)))))) (.unit)))) (.pair (.row 147 (.pair .str (.pair (.int .i64) (.unit)))) (.pair (.row 149 (.pair .str (.pair .bool (.pair (.int .i64) (.pair .bool .unit))))) (.pair (.row 9 (.str)) (.unit)))))) (.unit))) (.pair (.row 73 (.pair (.row 9 (.str)) (.pair (.row 24 (.pair (.int .i64) (.pair (.int .i64) (.pair (.int .i64) (.pair (.int .i64) (.pair (.int .i64) (.pair .str .unit))))))) (.pair (.pair (.int .i64) (.pair (.int .i64) (.pair (.int .i64) (.pair (.int .i64) (.pair (.int .i64) (.pair .str .unit)))))) (.unit))))) (.unit))) (.pair (.row 81 (.pair (.pair (.int .i64) (.pair (.int .i64) (.pair (.int .i64) (.pair (.int .i64) (.pair (.int .i64) (.pair .str .unit)))))) (.pair (.pair (.int .i64) (.pair (.int .i64) (.pair (.int .i64) (.pair (.int .i64) (.pair (.int .i64) (.pair .str .unit)))))) (.pair (.pair (.int .i64) (.pair (.int .i64) (.pair (.int .i64) (.pair (.int .i64) (.pair (.int .i64) (.pair .str .unit)))))) (.pair (.pair (.int .i64) (.pair (.int .i64) (.pair (.int .i64) (.pair (.int .i64) (.pair (.int .i64) (.pair .str .unit)))))) .unit))))) (.unit)))), q0⟩
theorem ti67_ok : TOk Try.prog 67 ti67 := ⟨by kernel_rfl, by kernel_rfl, by decide +kernel, rfl, fun k hk => by cases hk <;> exact ⟨rfl, rfl⟩, fun h => by cases h⟩
def tb : Tb := [(3, ti3), (4, ti4), (9, ti9), (24, ti24), (25, ti25), (22, ti22), (58, ti58), (73, ti73), (62, ti62), (32, ti32), (81, ti81), (65, ti65), (80, ti80), (51, ti51), (31, ti31), (100, ti100), (102, ti102), (98, ti98), (112, ti112), (108, ti108), (5, ti5), (145, ti145), (136, ti136), (147, ti147), (137, ti137), (149, ti149), (138, ti138), (140, ti140), (59, ti59), (61, ti61), (64, ti64), (27, ti27), (67, ti67)]
@[simp] theorem tb_at3 : Tb.at tb 3 = some ti3 := rfl
@[simp] theorem tb_at4 : Tb.at tb 4 = some ti4 := rfl
@[simp] theorem tb_at9 : Tb.at tb 9 = some ti9 := rfl
@[simp] theorem tb_at24 : Tb.at tb 24 = some ti24 := rfl
@[simp] theorem tb_at25 : Tb.at tb 25 = some ti25 := rfl
@[simp] theorem tb_at22 : Tb.at tb 22 = some ti22 := rfl
@[simp] theorem tb_at58 : Tb.at tb 58 = some ti58 := rfl
@[simp] theorem tb_at73 : Tb.at tb 73 = some ti73 := rfl
@[simp] theorem tb_at62 : Tb.at tb 62 = some ti62 := rfl
@[simp] theorem tb_at32 : Tb.at tb 32 = some ti32 := rfl
@[simp] theorem tb_at81 : Tb.at tb 81 = some ti81 := rfl
@[simp] theorem tb_at65 : Tb.at tb 65 = some ti65 := rfl
@[simp] theorem tb_at80 : Tb.at tb 80 = some ti80 := rfl
@[simp] theorem tb_at51 : Tb.at tb 51 = some ti51 := rfl
@[simp] theorem tb_at31 : Tb.at tb 31 = some ti31 := rfl
@[simp] theorem tb_at100 : Tb.at tb 100 = some ti100 := rfl
@[simp] theorem tb_at102 : Tb.at tb 102 = some ti102 := rfl
@[simp] theorem tb_at98 : Tb.at tb 98 = some ti98 := rfl
@[simp] theorem tb_at112 : Tb.at tb 112 = some ti112 := rfl
@[simp] theorem tb_at108 : Tb.at tb 108 = some ti108 := rfl
@[simp] theorem tb_at5 : Tb.at tb 5 = some ti5 := rfl
@[simp] theorem tb_at145 : Tb.at tb 145 = some ti145 := rfl
@[simp] theorem tb_at136 : Tb.at tb 136 = some ti136 := rfl
@[simp] theorem tb_at147 : Tb.at tb 147 = some ti147 := rfl
@[simp] theorem tb_at137 : Tb.at tb 137 = some ti137 := rfl
@[simp] theorem tb_at149 : Tb.at tb 149 = some ti149 := rfl
@[simp] theorem tb_at138 : Tb.at tb 138 = some ti138 := rfl
@[simp] theorem tb_at140 : Tb.at tb 140 = some ti140 := rfl
@[simp] theorem tb_at59 : Tb.at tb 59 = some ti59 := rfl
@[simp] theorem tb_at61 : Tb.at tb 61 = some ti61 := rfl
@[simp] theorem tb_at64 : Tb.at tb 64 = some ti64 := rfl
@[simp] theorem tb_at27 : Tb.at tb 27 = some ti27 := rfl
@[simp] theorem tb_at67 : Tb.at tb 67 = some ti67 := rfl
attribute [simp] ti3 ti4 ti9 ti24 ti25 ti22 ti58 ti73 ti62 ti32 ti81 ti65 ti80 ti51 ti31 ti100 ti102 ti98 ti112 ti108 ti5 ti145 ti136 ti147 ti137 ti149 ti138 ti140 ti59 ti61 ti64 ti27 ti67
theorem tb_ok : TbOk Try.prog tb := by
  intro p hp; simp only [tb, List.mem_cons, List.not_mem_nil, or_false] at hp; rcases hp with rfl | rfl | rfl | rfl | rfl | rfl | rfl | rfl | rfl | rfl | rfl | rfl | rfl | rfl | rfl | rfl | rfl | rfl | rfl | rfl | rfl | rfl | rfl | rfl | rfl | rfl | rfl | rfl | rfl | rfl | rfl | rfl | rfl
  · exact ti3_ok
  · exact ti4_ok
  · exact ti9_ok
  · exact ti24_ok
  · exact ti25_ok
  · exact ti22_ok
  · exact ti58_ok
  · exact ti73_ok
  · exact ti62_ok
  · exact ti32_ok
  · exact ti81_ok
  · exact ti65_ok
  · exact ti80_ok
  · exact ti51_ok
  · exact ti31_ok
  · exact ti100_ok
  · exact ti102_ok
  · exact ti98_ok
  · exact ti112_ok
  · exact ti108_ok
  · exact ti5_ok
  · exact ti145_ok
  · exact ti136_ok
  · exact ti147_ok
  · exact ti137_ok
  · exact ti149_ok
  · exact ti138_ok
  · exact ti140_ok
  · exact ti59_ok
  · exact ti61_ok
  · exact ti64_ok
  · exact ti27_ok
  · exact ti67_ok
end Go.Den
end
section
-- the texts that this claim needs, out of this session's and its print's (wip/shrink.py)
namespace Go.Den
open Go Go.RowKit Go.Proofs Go.Proofs.YtibfkkjkahpobaaW.PrintWords Go.Proofs.Ytibfkkjkahpobaa.PDag
def fV : Value → Bool
  | .int _ _ => true
  | .bool _ => true
  | .string _ => true
  | _ => false
theorem fV_back {U : Nat → Prop} {ρ : Nat → Value} {h : List Blk} {w : World} {v u : Value} (hv : fV v = true) (hc : CR U ρ h w (vC v) u) : u = v := by
  unfold fV at hv; split at hv <;> first | exact hc | cases hv
theorem fV_args {U : Nat → Prop} {ρ : Nat → Value} {h : List Blk} {w : World} : ∀ (l vs : List Value), l.all fV = true → All2 (SR U ρ h w) (l.map fun v => .one (vC v)) vs → vs = l
  | [], vs, _, ha => ha.left_nil
  | v :: l, vs, hl, ha => by
    obtain ⟨u, us, rfl, h1, h2⟩ := ha.left_cons; simp only [List.all_cons, Bool.and_eq_true] at hl; rw [fV_back hl.1 h1, fV_args l us hl.2 h2]
theorem fV_out {U : Nat → Prop} {ρ : Nat → Value} {h : List Blk} {w : World} {v : Value} (hv : fV v = true) : CR U ρ h w (vC v) v := by
  unfold fV at hv; split at hv <;> first | rfl | cases hv
theorem mkF (f : FuncId) (args : Array Value) (v : Value) (ha : args.toList.all fV = true) (hv : fV v = true) (en : Enters Try.prog f) (hc : ∀ w, Calls Try.prog f args w fun e w' => e = .returned v ∧ Below w.heap.size w w') : CallStep Try.prog f (args.toList.map fun v => .one (vC v)) [] (.one (vC v)) [] := by
  refine CallStep.mk1 en fun U ρ w vs hs => ?_; obtain rfl : vs = args := Array.toList_inj.1 (fV_args _ _ ha hs); refine Calls.mono (hc w) ?_; rintro e w' ⟨rfl, hB⟩; exact ⟨_, rfl, hB, fun U1 hU => fV_out hv⟩
theorem o36 (s : ByteArray) : CallStep Try.prog 68 [.one (.str s)] [] (.one (.bool (nameOk s))) [] := mkF 68 #[.string s] (.bool _) rfl rfl ⟨_, _, Try.func68, by kernel_rfl, rfl⟩ fun w => (r3_Name.calls 40 s _ w (ref_name (Nat.le_refl _) s)).mono fun _ _ h => ⟨h.1, h.2.below⟩
theorem o39 (n : Int) : CallStep Try.prog 40 [.one (.int .i64 n)] [] (.one (.bool (endsOp n))) [] := mkF 40 #[.int .i64 n] (.bool _) rfl rfl ⟨_, _, Try.func40, by kernel_rfl, rfl⟩ fun w => (r3_Ends.calls n _ w (rends_eq n)).mono fun _ _ h => ⟨h.1, h.2.below⟩
theorem o66 (op : Int) : CallStep Try.prog 66 [.one (.int .i64 op)] [] (.one (.bool (decide (0 ≤ op ∧ op ≤ 33)))) [] := mkF 66 #[.int .i64 op] (.bool _) rfl rfl ⟨_, _, Try.func66, by kernel_rfl, rfl⟩ fun w => (r3_Valid.calls op _ w (ref_valid op)).mono fun _ _ h => ⟨h.1, h.2.below⟩
theorem o67 (op : Int) (h0 : 0 ≤ op ∧ op ≤ 33) : CallStep Try.prog 15 [.one (.int .i64 op)] [] (.one (.int .i64 (formOf op))) [] := mkF 15 #[.int .i64 op] (.int .i64 _) rfl rfl ⟨_, _, Try.func15, by kernel_rfl, rfl⟩ fun w => (r3_Form.calls op _ w (form_eq op h0.1 h0.2)).mono fun _ _ h => ⟨h.1, h.2⟩
theorem o69 (f : Int) (h0 : 0 ≤ f ∧ f ≤ 9) : CallStep Try.prog 16 [.one (.int .i64 f)] [] (.one (.bool (hasD f))) [] := mkF 16 #[.int .i64 f] (.bool _) rfl rfl ⟨_, _, Try.func16, by kernel_rfl, rfl⟩ fun w => (r3_HasD.calls f _ w (ref_hasD f h0.1 h0.2)).mono fun _ _ h => ⟨h.1, h.2.below⟩
theorem o70 (f : Int) (h0 : 0 ≤ f ∧ f ≤ 9) : CallStep Try.prog 17 [.one (.int .i64 f)] [] (.one (.bool (hasA f))) [] := mkF 17 #[.int .i64 f] (.bool _) rfl rfl ⟨_, _, Try.func17, by kernel_rfl, rfl⟩ fun w => (r3_HasA.calls f _ w (ref_hasA f h0.1 h0.2)).mono fun _ _ h => ⟨h.1, h.2.below⟩
theorem o71 (f : Int) (h0 : 0 ≤ f ∧ f ≤ 9) : CallStep Try.prog 18 [.one (.int .i64 f)] [] (.one (.bool (hasB f))) [] := mkF 18 #[.int .i64 f] (.bool _) rfl rfl ⟨_, _, Try.func18, by kernel_rfl, rfl⟩ fun w => (r3_HasB.calls f _ w (ref_hasB f h0.1 h0.2)).mono fun _ _ h => ⟨h.1, h.2.below⟩
theorem o68 (n : Int) (has : Bool) : CallStep Try.prog 67 [.one (.int .i64 n), .one (.bool has)] [] (.one (.bool (regOk has n))) [] := mkF 67 #[.int .i64 n, .bool has] (.bool _) rfl rfl ⟨_, _, Try.func67, by kernel_rfl, rfl⟩ fun w => (r3_reg.calls n has _ w (ref_reg_eq has n)).mono fun _ _ h => ⟨h.1, h.2.below⟩
theorem o73 (f : Int) (h0 : 0 ≤ f ∧ f ≤ 9) : CallStep Try.prog 43 [.one (.int .i64 f)] [] (.one (.bool (target f))) [] := mkF 43 #[.int .i64 f] (.bool _) rfl rfl ⟨_, _, Try.func43, by kernel_rfl, rfl⟩ fun w => (r3_Target.calls f _ w (ref_target f h0.1 h0.2)).mono fun _ _ h => ⟨h.1, h.2.below⟩
theorem o75 (f : Int) (h0 : 0 ≤ f ∧ f ≤ 9) : CallStep Try.prog 70 [.one (.int .i64 f)] [] (.one (.int .i64 (bitsOf f))) [] := mkF 70 #[.int .i64 f] (.int .i64 _) rfl rfl ⟨_, _, Try.func70, by kernel_rfl, rfl⟩ fun w => (r3_Bits.calls 10 f _ w (ref_bits (Nat.le_refl _) f h0.1 h0.2)).mono fun _ _ h => ⟨h.1, h.2.below⟩
theorem fits_eq (n b : Int) (hb : b = 14 ∨ b = 18) : r1_Fits.f n b = some (if b = 14 then fit14 n else fit18 n) := by rcases hb with rfl | rfl; exact fits14 n; exact fits18 n
theorem o72 (n : Int) (b : Int) (hb : b = 14 ∨ b = 18) : CallStep Try.prog 69 [.one (.int .i64 n), .one (.int .i64 b)] [] (.one (.bool (if b = 14 then fit14 n else fit18 n))) [] := mkF 69 #[.int .i64 n, .int .i64 b] (.bool _) rfl rfl ⟨_, _, Try.func69, by kernel_rfl, rfl⟩ fun w => (r1_Fits.calls n b _ w (fits_eq n b hb)).mono fun _ _ h => ⟨h.1, h.2.below⟩
theorem num_eq (n m : Int) : r0_Num.f n m = some (decide (0 ≤ n ∧ n ≤ m)) := by
  unfold r0_Num.f
  by_cases h : n ≥ 0
  · rw [if_pos h]; congr 1; by_cases h2 : n ≤ m <;> simp [h2] <;> omega
  · rw [if_neg h]; congr 1; symm; rw [decide_eq_false_iff_not]; omega
theorem o74 (n : Int) (m : Int) : CallStep Try.prog 35 [.one (.int .i64 n), .one (.int .i64 m)] [] (.one (.bool (decide (0 ≤ n ∧ n ≤ m)))) [] := mkF 35 #[.int .i64 n, .int .i64 m] (.bool _) rfl rfl ⟨_, _, Try.func35, by kernel_rfl, rfl⟩ fun w => (r0_Num.calls n m _ w (num_eq n m)).mono fun _ _ h => ⟨h.1, h.2.below⟩
theorem regs_cond (a b c : Bool) : (bif (bif !a then true else !b) then true else !c) = !(a && (b && c)) := by cases a <;> cases b <;> cases c <;> rfl
theorem hnil : (⟨#[]⟩ : ByteArray).toList = [] := by rw [ByteArray.toList_eq]
theorem imm_some {op imm : Int} {s : ByteArray} (h0 : 0 ≤ op) (h1 : op ≤ 33) (hs : ¬ s.toList = []) : immOk (formOf op) imm s = (bif nameOk s then (bif (bif op == 23 then fit18 imm else false) then true else (bif target (formOf op) then imm == 0 else false)) else false) := by
  have hli := formOf_li op h0 h1; unfold immOk; rw [if_neg hs, if_neg hs]
  by_cases h4 : op = 23
  · have hf := hli.2 h4; rw [hf, h4]
    cases nameOk s <;> cases fit18 imm <;> simp [target]
  · have hf : ¬ formOf op = 4 := fun h => h4 (hli.1 h); rw [if_neg hf, show (op == 23) = false by simpa using h4]
    cases nameOk s <;> cases target (formOf op) <;> by_cases hi : imm = 0 <;> simp [hi]
theorem o38 (x : S24) : CallStep Try.prog 39 [.agg (kIns.flat (f24 x))] [] (.one (.bool (okI x))) [] := by
  obtain ⟨op, d, a, b, imm, s⟩ := x; show CallStep Try.prog 39 [.agg [.int .i64 op, .int .i64 d, .int .i64 a, .int .i64 b, .int .i64 imm, .str s]] [] (.one (.bool (insOk op d a b imm s))) []; refine CallStep.intro' (n := 76) (n0 := 0) (rs := [.tmp 2]) tb_ok Try.func39 (by kernel_rfl) rfl rfl rfl rfl rfl fun cx hcx => ?_; refine W.sO tb_ok ?_; refine W.seq ?_; have q0_ := o66 op; refine W.sO tb_ok ?_; refine W.if_ _ rfl (fun e => ?_) (fun e => W.skip ?_)
  · have e : decide (0 ≤ op ∧ op ≤ 33) = false := by rw [← Bool.not_eq_true']; exact e
    rw [show insOk op d a b imm s = false by unfold insOk; rw [e]; rfl]; refine W.sO tb_ok ?_; exact W.ret (endL1 (tb := tb) (n0 := 0) rfl rfl rfl rfl)
  have e : decide (0 ≤ op ∧ op ≤ 33) = true := by rw [← Bool.not_eq_false']; exact e
  have hop := of_decide_eq_true e; have hf := formOf_range op hop.1 hop.2; have hok : insOk op d a b imm s = (regOk (hasD (formOf op)) d && (regOk (hasA (formOf op)) a && regOk (hasB (formOf op)) b) && immOk (formOf op) imm s) := by unfold insOk; rw [e, Bool.true_and, Bool.and_assoc, Bool.and_assoc]
  have h73 := o73 (formOf op) hf; have h75 := o75 (formOf op) hf; have q0_ := o67 op hop; refine W.sO tb_ok ?_; refine W.seq ?_; have q0_ := o69 (formOf op) hf; have q1_ := o70 (formOf op) hf; have q2_ := o71 (formOf op) hf; have q3_ := o68 d (hasD (formOf op)); have q4_ := o68 a (hasA (formOf op)); have q5_ := o68 b (hasB (formOf op)); refine W.aO [22] tb_ok ?_; refine W.if_ _ rfl (fun e2 => ?_) (fun e2 => W.skip ?_)
  · have e3 := (regs_cond _ _ _).symm.trans e2; rw [Bool.not_eq_true'] at e3; rw [hok, e3]; refine W.sO tb_ok ?_; exact W.ret (endL1 (tb := tb) (n0 := 0) rfl rfl rfl rfl)
  have e3 := (regs_cond _ _ _).symm.trans e2; rw [Bool.not_eq_false'] at e3; rw [hok, e3, Bool.true_and]; refine W.seq ?_; refine W.sO tb_ok ?_; refine W.if_ _ rfl (fun e4 => ?_) (fun e4 => W.skip ?_)
  · have e5 : ¬ s.toList = [] := fun h => by have e4 : (!(s.toList == (⟨#[]⟩ : ByteArray).toList)) = true := e4; rw [h, hnil] at e4; cases e4
    rw [imm_some hop.1 hop.2 e5]; have q0_ := o36 s; have q1_ := o72 imm 18 (.inr rfl); refine W.sO tb_ok ?_; exact W.ret (endL1 (tb := tb) (n0 := 0) rfl rfl rfl rfl)
  have e5 : s.toList = [] := by have e4 : (!(s.toList == (⟨#[]⟩ : ByteArray).toList)) = false := e4; rw [Bool.not_eq_false', hnil] at e4; exact eq_of_beq e4
  have him : immOk (formOf op) imm s = if target (formOf op) = true then decide (0 ≤ imm ∧ imm ≤ 1023) else (if bitsOf (formOf op) > 0 then (if bitsOf (formOf op) = 14 then fit14 imm else fit18 imm) else imm == 0) := by
    unfold immOk; rw [if_pos e5, if_pos e5]; generalize formOf op = f at hf; rcases form_cases f hf.1 hf.2 with rfl | rfl | rfl | rfl | rfl | rfl | rfl | rfl | rfl | rfl <;> simp [target, bitsOf]
  refine W.seq (W.block ?_); refine W.sO tb_ok ?_; refine W.if_ _ rfl (fun e6 => ?_) (fun e6 => ?_)
  · rw [him, if_pos e6]; have q0_ := o74 imm 1023; refine W.sO tb_ok ?_; exact W.ret (endL1 (tb := tb) (n0 := 0) rfl rfl rfl rfl)
  rw [if_neg (by rw [e6]; exact Bool.false_ne_true)] at him; refine W.sO tb_ok ?_; refine W.if_ _ rfl (fun e7 => ?_) (fun e7 => W.skip ?_)
  · have e8 := of_decide_eq_true e7
    have hb : bitsOf (formOf op) = 14 ∨ bitsOf (formOf op) = 18 := by
      generalize formOf op = f at hf e8; rcases form_cases f hf.1 hf.2 with rfl | rfl | rfl | rfl | rfl | rfl | rfl | rfl | rfl | rfl <;> simp [bitsOf] at e8 ⊢
    rw [him, if_pos e8]; have q0_ := o72 imm (bitsOf (formOf op)) hb; refine W.aO [6] tb_ok ?_; exact W.ret (endL1 (tb := tb) (n0 := 0) rfl rfl rfl rfl)
  · have e8 := of_decide_eq_false e7; rw [him, if_neg e8]; refine W.sO tb_ok ?_; exact W.ret (endL1 (tb := tb) (n0 := 0) rfl rfl rfl rfl)
end Go.Den
end
section
-- the texts that this claim needs, out of this session's and its print's (wip/shrink.py)
namespace Go.Den
open Go Go.RowKit Go.Proofs Go.Proofs.YtibfkkjkahpobaaW.PrintWords Go.Proofs.Ytibfkkjkahpobaa.PDag
theorem insVal {U : Nat → Prop} {ρ : Nat → Value} {h : List Blk} {w : World} {x : S24} {cs : Array Value} (h1 : All2 (CR U ρ h w) (kIns.flat (f24 x)) cs.toList) : cs = #[.int .i64 x.f0, .int .i64 x.f1, .int .i64 x.f2, .int .i64 x.f3, .int .i64 x.f4, .string x.f5] := by
  obtain ⟨v0, l0, e0, a0, h1⟩ := h1.left_cons; obtain ⟨v1, l1, rfl, a1, h1⟩ := h1.left_cons; obtain ⟨v2, l2, rfl, a2, h1⟩ := h1.left_cons; obtain ⟨v3, l3, rfl, a3, h1⟩ := h1.left_cons; obtain ⟨v4, l4, rfl, a4, h1⟩ := h1.left_cons; obtain ⟨v5, l5, rfl, a5, h1⟩ := h1.left_cons; obtain rfl := h1.left_nil; obtain rfl : v0 = .int .i64 x.f0 := a0; obtain rfl : v1 = .int .i64 x.f1 := a1; obtain rfl : v2 = .int .i64 x.f2 := a2; obtain rfl : v3 = .int .i64 x.f3 := a3; obtain rfl : v4 = .int .i64 x.f4 := a4; obtain rfl : v5 = .string x.f5 := a5; exact Array.toList_inj.1 e0
theorem int1 {U : Nat → Prop} {ρ : Nat → Value} {h : List Blk} {w : World} {n : Int} {vs : Array Value} (ha : All2 (SR U ρ h w) [.one (.int .i64 n)] vs.toList) : vs = #[.int .i64 n] := by
  obtain ⟨v, rfl, hv⟩ := vs1 ha; obtain rfl : v = .int .i64 n := hv; rfl
theorem o40 (op : Int) (h0 : 0 ≤ op ∧ op ≤ 33) : CallStep Try.prog 27 [.one (.int .i64 op)] [] (.one (.int .i64 (lateOp op))) [] := by
  refine CallStep.mk1 ⟨_, _, Try.func27, by kernel_rfl, rfl⟩ fun U ρ w vs ha => ?_; obtain rfl := int1 ha; refine Calls.mono (r3_Latency.calls 5 op _ w (rlate_eq (Nat.le_refl _) op h0.1 h0.2)) ?_; rintro e w' ⟨rfl, hB⟩; exact ⟨_, rfl, hB.below, fun U1 hU => rfl⟩
end Go.Den
end
section
-- the texts that this claim needs, out of this session's and its print's (wip/shrink.py)
namespace Go.Den
open Go Go.RowKit Go.Proofs Go.Proofs.YtibfkkjkahpobaaW.PrintWords Go.Proofs.Ytibfkkjkahpobaa.PDag
@[reducible] def kE : K := .pair (.int .i64) (.pair (.int .i64) (.pair (.int .i64) .unit))
def f100 (x : S51) : kE.T := (x.f0, x.f1, x.f2, ())
theorem at24 (l : List S24) (i : Nat) (h : i < l.length) : (l.map f24).getD i (K.zero kIns) = f24 (J24 l i) := by
  rw [rd_at l i h, List.getD_eq_getElem?_getD, List.getElem?_map, List.getElem?_eq_getElem h]; rfl
end Go.Den
end
section
-- the texts that this claim needs, out of this session's and its print's (wip/shrink.py)
namespace Go.Den
open Go Go.RowKit Go.Proofs Go.Proofs.YtibfkkjkahpobaaW.PrintWords Go.Proofs.Ytibfkkjkahpobaa.PDag
theorem plain_cond (o z e : Bool) : (bif (bif !o then true else z) then true else e) = !(o && (!e && !z)) := by cases o <;> cases z <;> cases e <;> rfl
theorem plain_false {l : List S24} {i : Nat} (h : i < l.length) (hp : plainI (J24 l i) = false) : mayL l = false := by
  rw [rd_at l i h] at hp
  cases hm : mayL l with
  | false => rfl
  | true => have := (mayL_parts hm).2 _ (List.getElem_mem h); rw [this] at hp; cases hp
theorem plain_all {l : List S24} (h : ∀ i : Nat, i < l.length → plainI (J24 l i) = true) : allPlain l = true := by
  unfold allPlain; rw [List.all_eq_true]; intro x hx; obtain ⟨i, hi, rfl⟩ := List.getElem_of_mem hx; have := h i hi; rw [rd_at l i hi] at this; exact this
theorem o12 (l : List S24) (hl : l.length ≤ 1000000000) : CallStep Try.prog 32 [.one (.row 24 kIns (l.map f24))] [] (.one (.bool (mayL l))) [] := by
  have hL : (l.map f24).length = l.length := List.length_map ..; refine CallStep.intro' (n := 39) (n0 := 0) (rs := [.tmp 2]) tb_ok Try.func32 (by kernel_rfl) rfl rfl rfl rfl rfl fun cx hcx => ?_; refine W.sO tb_ok ?_; refine W.seq ?_; refine W.sO tb_ok ?_; refine W.block (W.loop (fun i : Nat => ⟨[(3, .one (.int .i64 i)), (0, .one (.row 24 kIns (l.map f24)))], [], 39⟩) (fun i => l.length - i) (fun i => i ≤ l.length ∧ i ≤ 201 ∧ ∀ j : Nat, j < i → plainI (J24 l j) = true) 0 ⟨Nat.zero_le _, Nat.zero_le _, fun j h => absurd h (Nat.not_lt_zero _)⟩ (Le.to [] hcx rfl ⟨rfl, rfl, rfl, rfl⟩) fun i hi => ?_); obtain ⟨hi, h201, hp⟩ := hi; refine W.seq ?_; refine W.sO tb_ok ?_
  have hcc : (bif decide ((i : Int) < ((l.map f24).length : Int)) then decide ((i : Int) ≤ 200) else false) = decide (i < l.length ∧ i ≤ 200) := by
    rw [hL]; by_cases h1 : i < l.length <;> by_cases h2 : i ≤ 200 <;> simp [h1, h2] <;> omega
  refine W.if_ _ rfl (fun e => W.skip ?_) (fun e => W.exit ?_)
  case refine_2 =>
    have e1 := of_decide_eq_false (hcc.symm.trans e); refine W.sO tb_ok ?_; refine W.ret (endL1 (tb := tb) (n0 := 0) ?_ rfl rfl rfl); refine congrArg (fun b => S.one (C.bool b)) ?_; unfold mayL
    by_cases h : l.length ≤ 200
    · rw [decide_eq_true h, plain_all fun j hj => hp j (by omega)]; exact decide_eq_true (by omega)
    · rw [decide_eq_false h]; exact decide_eq_false (by omega)
  obtain ⟨e1, e2⟩ := of_decide_eq_true (hcc.symm.trans e); have hy := at24 l i e1; have h38 := o38 (g24 ((l.map f24).getD i (K.zero kIns))); rw [show okI (g24 ((l.map f24).getD i (K.zero kIns))) = okI (J24 l i) by rw [hy]; rfl] at h38; have h39 := o39 ((l.map f24).getD i (K.zero kIns)).1; rw [show endsOp ((l.map f24).getD i (K.zero kIns)).1 = endsOp (J24 l i).f0 by rw [hy]; rfl] at h39; refine W.seq (W.block ?_); refine W.sO tb_ok ?_; have hpc : (bif (bif !okI (J24 l i) then true else ((l.map f24).getD i (K.zero kIns)).1 == 0) then true else endsOp (J24 l i).f0) = !plainI (J24 l i) := by rw [plain_cond, hy]; rfl
  refine W.if_ _ rfl (fun e3 => ?_) (fun e3 => W.skip ?_)
  · have e4 := hpc.symm.trans e3; rw [Bool.not_eq_true'] at e4; rw [plain_false e1 e4]; refine W.sO tb_ok ?_; exact W.ret (endL1 (tb := tb) (n0 := 0) rfl rfl rfl rfl)
  · have e4 := hpc.symm.trans e3; rw [Bool.not_eq_false'] at e4; refine W.rO tb_ok ?_; refine ⟨i + 1, ⟨e1, by omega, fun j hj => (by rcases Nat.eq_or_lt_of_le (Nat.le_of_lt_succ hj) with h | h; rw [h]; exact e4; exact hp j h)⟩, Le.to [] hcx rfl ⟨?_, rfl, rfl, rfl⟩, by omega⟩; show S.ren _ (S.one (.int .i64 (IntKind.i64.wrap (↑i + 1)))) = _; rw [IntWalk.i64_in _ (by omega)]; rfl
end Go.Den
end
