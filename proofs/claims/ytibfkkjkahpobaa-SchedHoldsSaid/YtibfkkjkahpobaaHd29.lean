import Derived.Test.YtibfkkjkahpobaaHd28
import Derived.LoopN
set_option linter.unusedVariables false
set_option linter.unusedSimpArgs false
set_option maxHeartbeats 8000000
set_option maxRecDepth 100000
section
-- the texts that this claim needs, out of this session's and its print's (wip/shrink.py)
namespace Go.Den
open Go Go.RowKit
section
variable {P : Program} {U U1 : Nat → Prop} {ρ ρ1 : Nat → Value} {h h1 : List Blk} {w w1 : World}
def core : S → S
  | .grd _ s => s
  | s => s
def grdOf : S → Bool
  | .grd b _ => b
  | _ => true
def pickR (c a b : S) : Option (S × Prop) := match core c, core a, core b with
  | .one (.bool x), .one (.bool y), .one (.bool z) => some (.one (.bool (bif x then y else z)), (x = true → grdOf a = true) ∧ (x = false → grdOf b = true))
  | .one (.bool x), .one (.int k y), .one (.int k' z) => match decide (k = k') with
    | true => some (.one (.int k (bif x then y else z)), (x = true → grdOf a = true) ∧ (x = false → grdOf b = true))
    | false => none
  | _, _, _ => none
theorem core_ok {s : S} {v : Value} (hs : SR U ρ h w s v) (hg : grdOf s = true) : SR U ρ h w (core s) v := by
  cases s with
  | grd b s => exact hs.1 hg
  | _ => exact hs
theorem pickR_ok {c a b s1 : S} {p : Prop} {vc va vb : Value} (hp : pickR c a b = some (s1, p)) (hpp : p) (hc : SR U ρ h w (core c) vc) (ha : SR U ρ h w a va) (hb : SR U ρ h w b vb) (hr : HR U ρ h w) : ValOk P U ρ h w (do pure (if ← asBool vc then va else vb)) s1 h := by
  unfold pickR at hp; split at hp <;> try (cases hp; done)
  · rename_i x y z e1 e2 e3
    obtain ⟨rfl, rfl⟩ := (Prod.mk.injEq ..).mp (Option.some.inj hp); rw [e1] at hc; rw [show vc = _ from hc]; refine ValOk.pure hr (v := if x = true then va else vb) (by simp [asBool]) ?_
    cases x with
    | true => have := core_ok ha (hpp.1 rfl); rw [e2] at this; exact this
    | false => have := core_ok hb (hpp.2 rfl); rw [e3] at this; exact this
  · rename_i x k y k' z e1 e2 e3
    split at hp <;> try (cases hp; done)
    rename_i hk
    obtain rfl := of_decide_eq_true hk; obtain ⟨rfl, rfl⟩ := (Prod.mk.injEq ..).mp (Option.some.inj hp); rw [e1] at hc; rw [show vc = _ from hc]; refine ValOk.pure hr (v := if x = true then va else vb) (by simp [asBool]) ?_
    cases x with
    | true => have := core_ok ha (hpp.1 rfl); rw [e2] at this; exact this
    | false => have := core_ok hb (hpp.2 rfl); rw [e3] at this; exact this
theorem TOk.bool {t : Nat} {i : TI} (h : TOk P t i) (hd : i.d = .bool) : P.underlying t = some .bool := by
  have := h.und
  cases hu : P.underlying t with
  | none => rw [hu] at this; cases this
  | some d =>
    rw [hu, hd] at this; have h2 := Option.some.inj this
    cases d <;> simp only [tdOf, reduceCtorEq] at h2
    rfl
def boolR (tb : Tb) (op : BinOp) (t : Nat) (a b : Bool) : Option Bool := match Tb.at tb t with
  | some i => match i.d, op with
    | .bool, .eql => some (a == b)
    | .bool, .neq => some (a != b)
    | _, _ => none
  | none => none
theorem run_eq_bool {t : TypeId} (hu : P.underlying t = some .bool) (a b : Bool) : (Op.equal t (.bool a) (.bool b)).run P w = .ok (a == b) w := by
  show (Op.equalIn (9999 + 1) t (.bool a) (.bool b)).run P w = _; unfold Op.equalIn; simp [run_underlying hu]
theorem boolR_ok {tb : Tb} {op : BinOp} {t : Nat} {a b r : Bool} {x y : Value} (ok : TbOk P tb) (hr : boolR tb op t a b = some r) (hx : SR U ρ h w (.one (.bool a)) x) (hy : SR U ρ h w (.one (.bool b)) y) (ox oy : Operand) :
    (do eqGuard op t ox oy x y; Go.binOp op t x y : Sem Value).run P w = .ok (.bool r) w := by
  obtain rfl : x = .bool a := hx; obtain rfl : y = .bool b := hy; unfold boolR at hr; split at hr <;> try (cases hr; done)
  rename_i i hi
  split at hr <;> try (cases hr; done)
  · rename_i hd
    obtain rfl := Option.some.inj hr; simp [eqGuard, Go.binOp, run_eq_bool ((ok.at hi).bool hd)]
  · rename_i hd
    obtain rfl := Option.some.inj hr; simp [eqGuard, Go.binOp, run_eq_bool ((ok.at hi).bool hd)]
    cases a <;> cases b <;> rfl
def builtinR (tb : Tb) (b : Builtin) (ts : List Nat) (xs : List S) (h : List Blk) : Option (S × List Blk × Prop) := match b, ts, xs with
  | .len, [t], [x] => match lenR tb t x h with
    | some n => some (.one (.int .i64 n), h, True)
    | none => none
  | .append, [t, t'], [s, x] => match nb t t' with
    | true => appendR tb t s x h
    | false => none
  | .max, _, x :: xs => match intsOf (x :: xs) with
    | some ((k, n) :: r) => some (.one (.int k ((r.map Prod.snd).foldl max n)), h, True)
    | _ => none
  | .min, _, x :: xs => match intsOf (x :: xs) with
    | some ((k, n) :: r) => some (.one (.int k ((r.map Prod.snd).foldl min n)), h, True)
    | _ => none
  | _, _, _ => none
def opR (tb : Tb) (ow : Bool) (o : Oper) (g : Operand → S) (h : List Blk) : Option (S × List Blk × Prop) := match o.op with
  | .move x => some (core (g x), h, True)
  | .assign x => (asgR tb o.type (core (g x)) h).map fun p => (p.1, p.2, True)
  | .pick c a b => (pickR (g c) (g a) (g b)).map fun p => (p.1, h, p.2)
  | .alloc t => (allocR tb t h).map fun p => (p.1, p.2, True)
  | .box t x => (cellsOf (core (g x))).map fun l => (.one (.ptr h.length 0), h ++ [.box t l], True)
  | .build t ps => (buildR tb t (ps.toList.map fun p => (p.1, core (g p.2))) h).map fun p => (p.1, p.2, True)
  | .buildSlice t n ps => (buildSliceR tb ow t n (ps.toList.map fun p => (p.1, core (g p.2))) h).map fun p => (p.1, p.2, True)
  | .load t a => loadR tb t (core (g a)) h
  | .store t a x => (storeR tb t (core (g a)) (core (g x)) h).map fun p => (.undef, p.1, p.2)
  | .nilCheck x => match isAddr h (core (g x)) with
    | true => some (core (g x), h, True)
    | false => none
  | .binOp op t x y _ => match core (g x), core (g y) with
    | .agg a, .agg b => (eqR tb op t a b).map fun r => (.one (.bool r), h, True)
    | .one (.bool a), .one (.bool b) => (boolR tb op t a b).map fun r => (.one (.bool r), h, True)
    | sx, sy => (binR op sx sy).map fun p => (p.1, h, p.2)
  | .unOp op _ x => (unR op (core (g x))).map fun s => (s, h, True)
  | .convert src dst x => (convR tb src dst (core (g x))).map fun s => (s, h, True)
  | .makeFunc (.func f) first caps => match first.toList with
    | [] => (capsR h (caps.toList.map fun x => core (g x))).map fun ids => (.one (.fn f ids), h, True)
    | _ => none
  | .makeSlice t l c => makeR tb t (core (g l)) (core (g c)) h
  | .slice t x lo hi none => slR tb ow t (core (g x)) (lo.map fun x => core (g x)) (hi.map fun x => core (g x)) h
  | .fieldAddr t x i => (fieldR tb t (core (g x)) i h).map fun s => (s, h, True)
  | .field t x i => (fieldVR tb t (core (g x)) i).map fun s => (s, h, True)
  | .indexAddr t x i => match core (g i) with
    | .one (.int _ n) => (indexR tb t (core (g x)) n h).map fun p => (p.1, h, p.2)
    | _ => none
  | .index t x i => match core (g i) with
    | .one (.int _ n) => (anyIndexR tb t (core (g x)) n).map fun p => (p.1, h, p.2)
    | _ => none
  | .extract x i => (extractR (core (g x)) i).map fun s => (s, h, True)
  | .call { callee := .builtin b, args, argTypes } => builtinR tb b argTypes.toList (args.toList.map fun x => core (g x)) h
  | _ => none
theorem map_some {α β : Type} {o : Option α} {f : α → β} {b : β} (h : o.map f = some b) : ∃ a, o = some a ∧ f a = b := Option.map_eq_some_iff.1 h
theorem All2.of_fun {f : Operand → S} {e : Operand → Value} : ∀ (l : List Operand), (∀ x ∈ l, SR U ρ h w (f x) (e x)) → All2 (SR U ρ h w) (l.map f) (l.map e)
  | [], _ => All2.nil
  | x :: r, hf => All2.cons (hf x (by simp)) (All2.of_fun r (fun y hy => hf y (by simp [hy])))
theorem PartsR.of_fun {f : Operand → S} {e : Operand → Value} : ∀ (l : List (Nat × Operand)), (∀ p ∈ l, SR U ρ h w (f p.2) (e p.2)) → PartsR U ρ h w (l.map fun p => (p.1, f p.2)) (l.map fun p => (p.1, e p.2))
  | [], _ => All2.nil
  | x :: r, hf => All2.cons ⟨rfl, hf x (by simp)⟩ (PartsR.of_fun r (fun y hy => hf y (by simp [hy])))
theorem OptR.of_fun {f : Operand → S} {e : Operand → Value} : ∀ (o : Option Operand), (∀ x ∈ o, SR U ρ h w (f x) (e x)) → OptR U ρ h w (o.map f) (o.map e)
  | none, _ => trivial
  | some x, hf => hf x rfl
def gps (g : Operand → S) : List Operand → Prop
  | [] => True
  | x :: r => match g x with
    | .grd b _ => b = true ∧ gps g r
    | _ => gps g r
theorem gps_ok {g : Operand → S} {ev : Operand → Value} (hg : ∀ x, SR U ρ h w (g x) (ev x)) : ∀ (l : List Operand), gps g l → ∀ x ∈ l, SR U ρ h w (core (g x)) (ev x)
  | [], _, x, hx => by cases hx
  | y :: r, hp, x, hx => by
    have hr : gps g r ∧ grdOf (g y) = true := by
      unfold gps at hp; split at hp
      · rename_i b s hb; exact ⟨hp.2, by rw [hb]; exact hp.1⟩
      · rename_i hn
        refine ⟨hp, ?_⟩
        cases hgy : g y with
        | grd b s => exact absurd hgy (hn b s)
        | _ => rfl
    rcases List.mem_cons.1 hx with rfl | hx
    · exact core_ok (hg x) hr.2
    · exact gps_ok hg r hr.1 x hx
def oL : Option Operand → List Operand
  | none => []
  | some x => [x]
def opnds (o : Op) : List Operand := match o with
  | .build _ ps => ps.toList.map Prod.snd
  | .buildSlice _ _ ps => ps.toList.map Prod.snd
  | .makeFunc _ first caps => first.toList ++ caps.toList
  | .slice _ x l h m => x :: (oL l ++ oL h ++ oL m)
  | .call c => match c.callee with
    | .value f => f :: c.args.toList
    | .invoke r _ => r :: c.args.toList
    | .builtin _ => c.args.toList
  | o => o.operands.toList
theorem opnds_eq (o : Op) : opnds o = o.operands.toList := by
  unfold opnds; split
  · simp [Op.operands]
  · simp [Op.operands]
  · simp [Op.operands]
  · rename_i l h m
    cases l <;> cases h <;> cases m <;> simp [Op.operands, oL]
  · rename_i c
    split <;> (rename_i hc; simp [Op.operands, Call.operands, hc])
  · rfl
def opGps (o : Op) (g : Operand → S) : Prop := match o with
  | .pick c _ _ => gps g [c]
  | o => gps g (opnds o)
theorem opGps_all {o : Op} {g : Operand → S} (h : opGps o g) (hn : ∀ c a b, o ≠ .pick c a b) : gps g o.operands.toList := by
  rw [← opnds_eq]
  cases o <;> first | exact h | exact absurd rfl (hn _ _ _)
set_option maxHeartbeats 4000000 in
theorem opR_ok {tb : Tb} {ow : Bool} {o : Oper} {g : Operand → S} {ev : Operand → Value} {s1 : S} {p : Prop} (ok : TbOk P tb) (ho : opR tb ow o g h = some (s1, h1, p)) (hp : p) (hr : HR U ρ h w) (hg : ∀ x, SR U ρ h w (g x) (ev x)) (hgp : opGps o.op g) :
    OpOk P U ρ h w (execOp ev o) s1 h1 := by
  obtain ⟨dst, op, type, pos, after, guard⟩ := o; have hall : (∀ c a b, op ≠ .pick c a b) → ∀ x ∈ op.operands.toList, SR U ρ h w (core (g x)) (ev x) := fun hn => gps_ok hg _ (opGps_all hgp hn); unfold opR at ho
  cases op <;> simp only [] at ho <;> try (cases ho; done)
  case move x =>
    have hx := hall (by simp) x (by simp [Op.operands]); obtain ⟨rfl, h2⟩ := (Prod.mk.injEq ..).mp (Option.some.inj ho); obtain ⟨rfl, rfl⟩ := (Prod.mk.injEq ..).mp h2; exact ⟨ev x, w, U, ρ, .inl rfl, Go1.refl hr, hx⟩
  case assign x =>
    have hx := hall (by simp) x (by simp [Op.operands]); obtain ⟨q, hq, he⟩ := map_some ho; obtain ⟨rfl, h2⟩ := (Prod.mk.injEq ..).mp he; obtain ⟨rfl, rfl⟩ := (Prod.mk.injEq ..).mp h2; exact (asgR_ok (P := P) (e := Pure.pure (ev x)) hq hr hx rfl).op
  case pick c a b =>
    obtain ⟨q, hq, he⟩ := map_some ho; obtain ⟨rfl, h2⟩ := (Prod.mk.injEq ..).mp he; obtain ⟨rfl, rfl⟩ := (Prod.mk.injEq ..).mp h2; obtain ⟨v, w1, U1, ρ1, h1, h2, h3⟩ := pickR_ok (P := P) hq hp (gps_ok hg [c] hgp c (by simp)) (hg a) (hg b) hr; refine ⟨v, w1, U1, ρ1, .inl ?_, h2, h3⟩; simp only [Sem.run_bind, Sem.run_pure] at h1 ⊢; unfold execOp; simp only [Sem.run_bind, Sem.run_pure]
    cases hb : (asBool (ev c)).run P w with
    | ok b0 w0 =>
      rw [hb] at h1; simp only [Result.andThen_ok] at h1 ⊢; injection h1 with h1 h1'
      rw [h1, h1']
    | halt e w0 => rw [hb] at h1; cases h1
  case alloc t =>
    obtain ⟨q, hq, he⟩ := map_some ho; obtain ⟨rfl, h2⟩ := (Prod.mk.injEq ..).mp he; obtain ⟨rfl, rfl⟩ := (Prod.mk.injEq ..).mp h2; exact (allocR_ok ok hq hr).op
  case box t x =>
    have hx := hall (by simp) x (by simp [Op.operands]); obtain ⟨q, hq, he⟩ := map_some ho; obtain ⟨rfl, h2⟩ := (Prod.mk.injEq ..).mp he; obtain ⟨rfl, rfl⟩ := (Prod.mk.injEq ..).mp h2; exact (box_ok hr (cellsOf_ok hq hx)).op
  case build t ps =>
    obtain ⟨q, hq, he⟩ := map_some ho; obtain ⟨rfl, h2⟩ := (Prod.mk.injEq ..).mp he; obtain ⟨rfl, rfl⟩ := (Prod.mk.injEq ..).mp h2; refine (buildR_ok (vs := ps.map fun p => (p.1, ev p.2)) ok hq hr ?_).op; rw [Array.toList_map]; exact PartsR.of_fun (f := fun x => core (g x)) ps.toList fun p hp' => hall (by simp) p.2 (by simp only [Op.operands]; simp; exact ⟨p.1, by simpa using hp'⟩)
  case buildSlice t n ps =>
    obtain ⟨q, hq, he⟩ := map_some ho; obtain ⟨rfl, h2⟩ := (Prod.mk.injEq ..).mp he; obtain ⟨rfl, rfl⟩ := (Prod.mk.injEq ..).mp h2; refine (buildSliceR_ok (vs := ps.map fun p => (p.1, ev p.2)) ok hq hr ?_).op; rw [Array.toList_map]; exact PartsR.of_fun (f := fun x => core (g x)) ps.toList fun p hp' => hall (by simp) p.2 (by simp only [Op.operands]; simp; exact ⟨p.1, by simpa using hp'⟩)
  case load t a =>
    have hx := hall (by simp) a (by simp [Op.operands]); exact (loadR_ok ok ho hp hr hx).op
  case store t a x =>
    have ha := hall (by simp) a (by simp [Op.operands]); have hx := hall (by simp) x (by simp [Op.operands]); obtain ⟨q, hq, he⟩ := map_some ho; obtain ⟨rfl, h2⟩ := (Prod.mk.injEq ..).mp he; obtain ⟨rfl, rfl⟩ := (Prod.mk.injEq ..).mp h2; exact (storeR_ok ok hq hp hr ha hx).op
  case nilCheck x =>
    have hx := hall (by simp) x (by simp [Op.operands]); split at ho <;> try (cases ho; done)
    rename_i ha
    obtain ⟨rfl, h2⟩ := (Prod.mk.injEq ..).mp (Option.some.inj ho); obtain ⟨rfl, rfl⟩ := (Prod.mk.injEq ..).mp h2; obtain ⟨ad, had⟩ := isAddr_ok ha hx; refine ⟨ev x, w, U, ρ, .inl ?_, Go1.refl hr, hx⟩; unfold execOp; simp only [had]; rfl
  case binOp op xt x y yt =>
    have hx := hall (by simp) x (by simp [Op.operands]); have hy := hall (by simp) y (by simp [Op.operands]); split at ho
    · rename_i la lb ea eb
      obtain ⟨q, hq, he⟩ := map_some ho; obtain ⟨rfl, h2⟩ := (Prod.mk.injEq ..).mp he; obtain ⟨rfl, rfl⟩ := (Prod.mk.injEq ..).mp h2; rw [ea] at hx; rw [eb] at hy; have h1 := eqR_ok (P := P) ok hq hx hy x y; exact (ValOk.pure (s := .one (.bool q)) hr h1 rfl).op
    · rename_i la lb ea eb
      obtain ⟨q, hq, he⟩ := map_some ho; obtain ⟨rfl, h2⟩ := (Prod.mk.injEq ..).mp he; obtain ⟨rfl, rfl⟩ := (Prod.mk.injEq ..).mp h2; rw [ea] at hx; rw [eb] at hy; have h1 := boolR_ok (P := P) ok hq hx hy x y; exact (ValOk.pure (s := .one (.bool q)) hr h1 rfl).op
    · obtain ⟨q, hq, he⟩ := map_some ho; obtain ⟨rfl, h2⟩ := (Prod.mk.injEq ..).mp he; obtain ⟨rfl, rfl⟩ := (Prod.mk.injEq ..).mp h2; obtain ⟨v, h1, h2⟩ := binR_ok (P := P) hq hp hx hy xt x y; exact (ValOk.pure hr h1 h2).op
  case unOp op xt x =>
    have hx := hall (by simp) x (by simp [Op.operands]); obtain ⟨q, hq, he⟩ := map_some ho; obtain ⟨rfl, h2⟩ := (Prod.mk.injEq ..).mp he; obtain ⟨rfl, rfl⟩ := (Prod.mk.injEq ..).mp h2; exact (unR_ok hq hr hx).op
  case convert src d x =>
    have hx := hall (by simp) x (by simp [Op.operands]); obtain ⟨q, hq, he⟩ := map_some ho; obtain ⟨rfl, h2⟩ := (Prod.mk.injEq ..).mp he; obtain ⟨rfl, rfl⟩ := (Prod.mk.injEq ..).mp h2; exact (convR_ok ok hq hr hx).op
  case makeFunc fn first caps =>
    cases fn <;> simp only [] at ho <;> try (cases ho; done)
    rename_i f
    split at ho <;> try (cases ho; done)
    rename_i hf
    obtain ⟨q, hq, he⟩ := map_some ho; obtain ⟨rfl, h2⟩ := (Prod.mk.injEq ..).mp he; obtain ⟨rfl, rfl⟩ := (Prod.mk.injEq ..).mp h2; have hf' : first = #[] := by apply Array.toList_inj.1; simpa using hf
    subst hf'; have hcap := capsR_ok (ρ := ρ) _ hq hr (All2.of_fun (f := fun x => core (g x)) (e := ev) caps.toList fun x hx => hall (by simp) x (by simpa [Op.operands] using hx)); refine (ValOk.pure (s := .one (.fn f q)) (v := .func (.func f) #[] (caps.map ev)) hr ?_ ⟨_, rfl, by rw [Array.toList_map]; exact hcap⟩).op; simp [Instr.makeFunc]
  case makeSlice t l c =>
    have hl := hall (by simp) l (by simp [Op.operands]); have hc := hall (by simp) c (by simp [Op.operands]); exact (makeR_ok ok ho hp hr hl hc).op
  case slice t x lo hi mx =>
    cases mx with
    | some _ => cases ho
    | none =>
      have hx := hall (by simp) x (by simp [Op.operands]); exact (slR_ok ok ho hp hr hx (OptR.of_fun (f := fun x => core (g x)) lo fun y hy => hall (by simp) y (by simp [Op.operands]; right; left; simpa using hy)) (OptR.of_fun (f := fun x => core (g x)) hi fun y hy => hall (by simp) y (by simp [Op.operands]; right; right; simpa using hy))).op
  case fieldAddr t x i =>
    have hx := hall (by simp) x (by simp [Op.operands]); obtain ⟨q, hq, he⟩ := map_some ho; obtain ⟨rfl, h2⟩ := (Prod.mk.injEq ..).mp he; obtain ⟨rfl, rfl⟩ := (Prod.mk.injEq ..).mp h2; exact (fieldR_ok ok hq hr hx).op
  case field t x i =>
    have hx := hall (by simp) x (by simp [Op.operands]); obtain ⟨q, hq, he⟩ := map_some ho; obtain ⟨rfl, h2⟩ := (Prod.mk.injEq ..).mp he; obtain ⟨rfl, rfl⟩ := (Prod.mk.injEq ..).mp h2; exact (fieldVR_ok ok hq hr hx).op
  case indexAddr t x i =>
    have hx := hall (by simp) x (by simp [Op.operands]); have hi := hall (by simp) i (by simp [Op.operands]); split at ho <;> try (cases ho; done)
    rename_i kk n hn
    obtain ⟨q, hq, he⟩ := map_some ho; obtain ⟨rfl, h2⟩ := (Prod.mk.injEq ..).mp he; obtain ⟨rfl, rfl⟩ := (Prod.mk.injEq ..).mp h2; rw [hn] at hi; have this := (indexR_ok (P := P) ok hq hp hr hx kk).op; rw [← (show ev i = .int kk n from hi)] at this; exact this
  case index t x i =>
    have hx := hall (by simp) x (by simp [Op.operands]); have hi := hall (by simp) i (by simp [Op.operands]); split at ho <;> try (cases ho; done)
    rename_i kk n hn
    obtain ⟨q, hq, he⟩ := map_some ho; obtain ⟨rfl, h2⟩ := (Prod.mk.injEq ..).mp he; obtain ⟨rfl, rfl⟩ := (Prod.mk.injEq ..).mp h2; rw [hn] at hi; have this := (anyIndexR_ok (P := P) ok hq hp hr hx kk).op; rw [← (show ev i = .int kk n from hi)] at this; exact this
  case extract x i =>
    have hx := hall (by simp) x (by simp [Op.operands]); obtain ⟨q, hq, he⟩ := map_some ho; obtain ⟨rfl, h2⟩ := (Prod.mk.injEq ..).mp he; obtain ⟨rfl, rfl⟩ := (Prod.mk.injEq ..).mp h2; exact (extractR_ok hq hr hx).op
  case call c =>
    obtain ⟨callee, args, ats⟩ := c
    cases callee <;> simp only [] at ho <;> try (cases ho; done)
    rename_i b
    have hxs := All2.of_fun (f := fun x => core (g x)) (e := ev) args.toList fun x hx => hall (by simp) x (by simpa [Op.operands, Call.operands] using hx); unfold builtinR at ho; split at ho <;> try (cases ho; done)
    · rename_i t x e1 e2
      split at ho <;> try (cases ho; done)
      rename_i n hn
      obtain ⟨rfl, h2⟩ := (Prod.mk.injEq ..).mp (Option.some.inj ho); obtain ⟨rfl, rfl⟩ := (Prod.mk.injEq ..).mp h2; rw [e2] at hxs; obtain ⟨v, vs', hv, hxr, ht⟩ := hxs.left_cons; have := ht.left_nil; subst this; have hv' : args.map ev = #[v] := by apply Array.toList_inj.1; rw [Array.toList_map]; exact hv
      have hats : ats = #[t] := by apply Array.toList_inj.1; exact e1
      subst hats; refine ⟨_, w, U, ρ, .inl ?_, Go1.refl hr, rfl⟩; have := lenR_ok (P := P) (ty := type) ok hn hr hxr; simp [execOp, resolve, invoke, builtin, hv', this]
    · rename_i t t' s x e1 e2
      split at ho <;> try (cases ho; done)
      rename_i ht'
      obtain rfl := nb_eq ht'; rw [e2] at hxs; obtain ⟨v, vs', hv, hxr, ht⟩ := hxs.left_cons; obtain ⟨v2, vs2, hv2, hxr2, ht2⟩ := ht.left_cons; have := ht2.left_nil; subst this; subst hv2; have hv' : args.map ev = #[v, v2] := by apply Array.toList_inj.1; rw [Array.toList_map]; exact hv
      have hats : ats = #[t, t] := by apply Array.toList_inj.1; exact e1
      subst hats; have := (appendR_ok (P := P) ok ho hp hr hxr hxr2 type).op; obtain ⟨v1, w1, U1, ρ1, h1, h2, h3⟩ := appendR_ok (P := P) ok ho hp hr hxr hxr2 type; refine ⟨v1, w1, U1, ρ1, .inl ?_, h2, h3⟩; simp [execOp, resolve, invoke, builtin, hv', h1]
    · rename_i ts x xs e2
      split at ho <;> try (cases ho; done)
      rename_i k n r hn
      obtain ⟨rfl, h2⟩ := (Prod.mk.injEq ..).mp (Option.some.inj ho); obtain ⟨rfl, rfl⟩ := (Prod.mk.injEq ..).mp h2; rw [e2] at hxs; have hv := intsOf_ok _ hn hxs; refine ⟨_, w, U, ρ, .inl ?_, Go1.refl hr, rfl⟩; have hv' : (args.map ev).toList = .int k n :: r.map fun p => .int p.1 p.2 := by rw [Array.toList_map]; exact hv
      have := run_max (P := P) (w := w) r k n; simp only [execOp, resolve, invoke, builtin, Sem.run_bind, Sem.run_pure, Result.andThen_ok, Builtin.max_, hv', this]
    · rename_i ts x xs e2
      split at ho <;> try (cases ho; done)
      rename_i k n r hn
      obtain ⟨rfl, h2⟩ := (Prod.mk.injEq ..).mp (Option.some.inj ho); obtain ⟨rfl, rfl⟩ := (Prod.mk.injEq ..).mp h2; rw [e2] at hxs; have hv := intsOf_ok _ hn hxs; refine ⟨_, w, U, ρ, .inl ?_, Go1.refl hr, rfl⟩; have hv' : (args.map ev).toList = .int k n :: r.map fun p => .int p.1 p.2 := by rw [Array.toList_map]; exact hv
      have := run_min (P := P) (w := w) r k n; simp only [execOp, resolve, invoke, builtin, Sem.run_bind, Sem.run_pure, Result.andThen_ok, Builtin.min_, hv', this]
end
attribute [simp] boolR
end Go.Den
end
section
-- the texts that this claim needs, out of this session's and its print's (wip/shrink.py)
namespace Go.Den
open Go Go.RowKit
def Enters (P : Program) (f : FuncId) : Prop := ∃ fn c, P.funcs[f]? = some fn ∧ (fn.name == "runtime.NumGoroutine") = false ∧ fn.body = some c
structure CallStep (P : Program) (f : FuncId) (xs : List S) (h : List Blk) (s : S) (h1 : List Blk) : Prop where
  enters : Enters P f
  calls : ∀ U ρ w (vs : Array Value), HR U ρ h w → All2 (SR U ρ h w) xs vs.toList → Calls P f vs w fun e w' => ∃ v U1 ρ1, e = .returned v ∧ Go1 U ρ h w U1 ρ1 h1 w' ∧ SR U1 ρ1 h1 w' s v
def ofConst : Value → S
  | .agg _ => .undef
  | .tuple _ => .undef
  | v => .one (vC v)
def St.ev (σ : St) : Operand → S
  | .tmp t => σ.get t
  | .const v => ofConst v
  | .global _ => .undef
  | .func f => .one (.fn f [])
section
variable {P : Program} {cx : Cx} {U U1 : Nat → Prop} {ρ ρ1 : Nat → Value} {σ : St} {h h1 : List Blk} {a : Act} {w w1 : World}
theorem R0.ev (r : R0 cx U ρ σ a w) : ∀ x, SR U ρ σ.heap w (σ.ev x) (a.eval x)
  | .tmp t => r.env t
  | .const v => by
    show SR U ρ σ.heap w (ofConst v) v; unfold ofConst; split
    · trivial
    · trivial
    · rename_i h1 h2
      refine CR.of_val ?_
      cases v <;> first | rfl | exact absurd rfl (h1 _) | exact absurd rfl (h2 _)
  | .global _ => trivial
  | .func f => ⟨#[], rfl, All2.nil⟩
def St.put (σ : St) (d : Option Nat) (s : S) (h : List Blk) (K : St → Prop) : Prop := match d with
  | none => K { σ with heap := h }
  | some d => bif nlt d σ.n then K { env := (d, s) :: σ.env, heap := h, n := σ.n } else False
theorem put_ok {d : Option Nat} {s : S} {K : St → Prop} {v : Value} (hk : σ.put d s h1 K) (r : R0 cx U ρ σ a w) (g : Go1 U ρ σ.heap w U1 ρ1 h1 w1) (hs : SR U1 ρ1 h1 w1 s v) : ∃ σ', K σ' ∧ R cx σ' (a.put d v) w1 := by
  have r1 := r.step g; unfold St.put at hk
  cases d with
  | none => exact ⟨_, hk, U1, ρ1, r1⟩
  | some d =>
    simp only [] at hk
    cases hd : nlt d σ.n with
    | false => rw [hd] at hk; exact hk.elim
    | true =>
      rw [hd] at hk; exact ⟨_, hk, U1, ρ1, r1.put (s := s) (nle_le hd) hs⟩
def calleeOf (σ : St) : Callee → Option (Nat × List S)
  | .value (.func f) => some (f, [])
  | .value x => match core (σ.ev x) with
    | .one (.fn f caps) => some (f, caps.map fun id => .one (.ptr id 0))
    | _ => none
  | _ => none
def callOf : Op → Option Call
  | .call c => match c.callee with
    | .builtin _ => none
    | _ => some c
  | _ => none
def opW (P : Program) (tb : Tb) (ow : Bool) (o : Oper) (σ : St) (K : S → List Blk → Prop) : Prop := match callOf o.op with
  | some c => match calleeOf σ c.callee with
    | some (f, caps) => opGps o.op σ.ev ∧ ∃ s h1, CallStep P f ((c.args.toList.map fun x => core (σ.ev x)) ++ caps) σ.heap s h1 ∧ K s h1
    | none => False
  | none => match opR tb ow o σ.ev σ.heap with
    | some (s, h1, p) => opGps o.op σ.ev ∧ p ∧ K s h1
    | none => False
def opG (P : Program) (tb : Tb) (ow : Bool) (o : Oper) (g : Bool) (σ : St) (K : S → Prop) : Prop := match callOf o.op with
  | some c => match calleeOf σ c.callee with
    | some (f, caps) => ∃ s, (g = true → opGps o.op σ.ev ∧ CallStep P f ((c.args.toList.map fun x => core (σ.ev x)) ++ caps) σ.heap s σ.heap) ∧ K (.grd g s)
    | none => False
  | none => match opR tb ow o σ.ev σ.heap with
    | some (s, h1, p) => (g = true → opGps o.op σ.ev ∧ p ∧ h1 = σ.heap) ∧ K (.grd g s)
    | none => False
def guardOf (σ : St) (ops : Array Oper) (j : Nat) (want : Bool) : Option Bool := match ops[j]? with
  | some o => match o.dst with
    | some d => match σ.get d with
      | .one (.bool b) => some (bif want then b else !b)
      | .grd g (.one (.bool b)) => some (g && (bif want then b else !b))
      | _ => none
    | none => none
  | none => none
def stepW (P : Program) (tb : Tb) (ops : Array Oper) (ow : Bool) (o : Oper) (σ : St) (K : St → Prop) : Prop := match o.guard with
  | none => opW P tb ow o σ fun s h1 => σ.put o.dst s h1 K
  | some (j, want) => match guardOf σ ops j want with
    | some g => opG P tb ow o g σ fun s => σ.put o.dst s σ.heap K
    | none => False
theorem tmps_get {t : Nat} {v : Value} (h : a.tmps.getD t undef = v) (hv : v ≠ undef) : a.tmps[t]? = some v := by
  cases hq : a.tmps[t]? with
  | none => simp [Array.getD_eq_getD_getElem?, hq] at h; exact absurd h.symm hv
  | some u => simp [Array.getD_eq_getD_getElem?, hq] at h; rw [h]
theorem guardOf_ok {ops : Array Oper} {j : Nat} {want g : Bool} (hg : guardOf σ ops j want = some g) (r : R0 cx U ρ σ a w) : (yielded ops a.tmps j == some want) = g := by
  unfold guardOf at hg; split at hg <;> try (cases hg; done)
  rename_i o ho
  split at hg <;> try (cases hg; done)
  rename_i d hd
  have hslot := r.env d; split at hg <;> try (cases hg; done)
  · rename_i b hb
    obtain rfl := Option.some.inj hg; rw [hb] at hslot; have := tmps_get (show a.tmps.getD d undef = .bool b from hslot) (by simp [undef]); simp only [yielded, ho, hd, Option.bind_some, this]
    cases b <;> cases want <;> rfl
  · rename_i g0 b hb
    obtain rfl := Option.some.inj hg; rw [hb] at hslot
    cases g0 with
    | true =>
      have := tmps_get (show a.tmps.getD d undef = .bool b from hslot.1 rfl) (by simp [undef]); simp only [yielded, ho, hd, Option.bind_some, this]
      cases b <;> cases want <;> rfl
    | false =>
      have hu := hslot.2 rfl
      have : (a.tmps[d]?) = none ∨ a.tmps[d]? = some undef := by
        cases hq : a.tmps[d]? with
        | none => exact .inl rfl
        | some u => simp [Array.getD_eq_getD_getElem?, hq] at hu; rw [hu]; exact .inr rfl
      rcases this with this | this
      · simp only [yielded, ho, hd, Option.bind_some, this]; rfl
      · simp only [yielded, ho, hd, Option.bind_some, this, undef]; rfl
theorem run_enter {f : FuncId} {o : Oper} {c : Call} {ev : Operand → Value} {cs : Array Value} (ho : o.op = .call c) (hf : Enters P f) (x : Operand) (hc : c.callee = .value x) (hx : ev x = .func (.func f) #[] cs) : (execOp ev o).run P w = .ok (.enter f (c.args.map ev ++ cs)) w := by
  obtain ⟨fn, b, h1, h2, h3⟩ := hf; have h2' : fn.name ≠ "runtime.NumGoroutine" := by simpa using h2
  simp [execOp, ho, resolve, hc, hx, Deferred.ofValue, invoke, callFunc, program, Sem.run, h1, h2', h3]
theorem caps_args {ids : List Nat} {vs : List Value} (ha : All2 (fun id u => u.oneCell' = true ∧ id < h.length ∧ (isBox h id = true → u = ρ id)) ids vs) (hr : HR U ρ h w) : All2 (SR U ρ h w) (ids.map fun id => S.one (.ptr id 0)) vs := by
  refine ⟨by simpa using ha.1, fun i s v hs hv => ?_⟩; rw [List.getElem?_map] at hs
  cases hq : ids[i]? with
  | none => rw [hq] at hs; cases hs
  | some id =>
    rw [hq] at hs; obtain rfl := Option.some.inj hs; obtain ⟨h0, h1, h2⟩ := ha.2 i id v hq hv; refine ⟨h0, h1, fun hb => ?_⟩; have hu := h2 hb; unfold isBox at hb; split at hb <;> try (cases hb; done)
    rename_i t l hid
    obtain ⟨g, arr, e1, _⟩ := hr.blk id _ hid; exact ⟨g, e1, by rw [hu, e1]⟩
theorem callOf_some {o : Op} {c : Call} (h : callOf o = some c) : o = .call c := by
  unfold callOf at h; split at h <;> try (cases h; done)
  split at h <;> try (cases h; done)
  rw [Option.some.inj h]
theorem callee_ok {c : Call} {f : Nat} {caps : List S} (hc : calleeOf σ c.callee = some (f, caps)) (r : R0 cx U ρ σ a w) (hg : ∀ x, c.callee = .value x → SR U ρ σ.heap w (core (σ.ev x)) (a.eval x)) : ∃ x cs, c.callee = .value x ∧ a.eval x = .func (.func f) #[] cs ∧ All2 (SR U ρ σ.heap w) caps cs.toList := by
  unfold calleeOf at hc; split at hc <;> try (cases hc; done)
  · rename_i f' hx
    obtain ⟨rfl, rfl⟩ := (Prod.mk.injEq ..).mp (Option.some.inj hc); exact ⟨_, #[], hx, rfl, All2.nil⟩
  · rename_i x _ hx
    split at hc <;> try (cases hc; done)
    rename_i f' ids hs
    obtain ⟨rfl, rfl⟩ := (Prod.mk.injEq ..).mp (Option.some.inj hc); have h1 := hg x hx; rw [hs] at h1; obtain ⟨cs, hv, ha⟩ := h1; exact ⟨x, cs, hx, hv, caps_args ha r.hr⟩
theorem opGps_call {c : Call} {o : Op} (ho : o = .call c) (hg : opGps o σ.ev) (r : R0 cx U ρ σ a w) : ∀ x ∈ c.operands, SR U ρ σ.heap w (core (σ.ev x)) (a.eval x) := by
  subst ho; exact fun x hx => gps_ok r.ev _ (opGps_all hg (by simp)) x (by simpa [Op.operands] using hx)
theorem wp_call {o : Oper} {c : Call} {f : Nat} {caps : List S} {s : S} {Q : Exit → Act → World → Prop} {K : Act → World → Prop} (ho : callOf o.op = some c) (hc : calleeOf σ c.callee = some (f, caps)) (hg : opGps o.op σ.ev) (hs : CallStep P f ((c.args.toList.map fun x => core (σ.ev x)) ++ caps) σ.heap s h1) (r : R0 cx U ρ σ a w)
    (hk : ∀ v w1 U1 ρ1, Go1 U ρ σ.heap w U1 ρ1 h1 w1 → SR U1 ρ1 h1 w1 s v → K (a.put o.dst v) w1) : o.wp P a w K Q := by
  have ho' := callOf_some ho; have hops := opGps_call ho' hg r; obtain ⟨x, cs, hx, hv, hcaps⟩ := callee_ok hc r (fun x hx => hops x (by simp [Call.operands, hx])); have hargs := All2.of_fun (f := fun x => core (σ.ev x)) (e := a.eval) c.args.toList (fun y hy => hops y (by simp [Call.operands]; right; simpa using hy)); have hrun := run_enter (P := P) (w := w) (ev := a.eval) ho' hs.enters x hx hv; unfold Oper.wp; rw [hrun]; show Calls P f _ w _; refine Calls.mono (hs.calls U ρ w _ r.hr (by rw [Array.toList_append, Array.toList_map]; exact hargs.append hcaps)) ?_; rintro e w' ⟨v, U1, ρ1, rfl, g, hsr⟩; exact hk v w' U1 ρ1 g hsr
theorem opW_ok {tb : Tb} {ow : Bool} {o : Oper} {K : S → List Blk → Prop} {Q : Exit → Act → World → Prop} {K' : Act → World → Prop} (ok : TbOk P tb) (hw : opW P tb ow o σ K) (r : R0 cx U ρ σ a w) (hk : ∀ s h1 v w1 U1 ρ1, K s h1 → Go1 U ρ σ.heap w U1 ρ1 h1 w1 → SR U1 ρ1 h1 w1 s v → K' (a.put o.dst v) w1) : o.wp P a w K' Q := by
  unfold opW at hw; split at hw
  · rename_i c hc
    split at hw <;> try (exact hw.elim)
    rename_i f caps hcal
    obtain ⟨hg, s, h1, hs, hks⟩ := hw; exact wp_call hc hcal hg hs r fun v w1 U1 ρ1 g hsr => hk s h1 v w1 U1 ρ1 hks g hsr
  · split at hw <;> try (exact hw.elim)
    rename_i s h1 p ho
    obtain ⟨hg, hp, hks⟩ := hw; obtain ⟨v, w1, U1, ρ1, hrun, g, hsr⟩ := opR_ok (P := P) (ev := a.eval) ok ho hp r.hr r.ev hg; unfold Oper.wp; rcases hrun with hrun | ⟨hrun, rfl⟩
    · rw [hrun]; exact hk s h1 v w1 U1 ρ1 hks g hsr
    · rw [hrun]; exact hk s h1 undef w1 U1 ρ1 hks g hsr
theorem stepW_ok {tb : Tb} {ops : Array Oper} {ow : Bool} {i : Nat} {o : Oper} {K : St → Prop} {Q : Exit → Act → World → Prop} (ok : TbOk P tb) (hi : ops[i]? = some o) (hw : stepW P tb ops ow o σ K) (r : R cx σ a w) : wpOp P ops Q i (fun a' w' => ∃ σ', K σ' ∧ R cx σ' a' w') a w := by
  obtain ⟨U, ρ, r⟩ := r; unfold wpOp; simp only [hi]; unfold stepW at hw; split at hw
  · rename_i hgd
    have hwant : Region.wanted o (yielded ops a.tmps) = true := by unfold Region.wanted; rw [hgd]
    rw [if_pos hwant]; exact .inl (opW_ok ok hw r fun s h1 v w1 U1 ρ1 hk g hs => put_ok hk r g hs)
  · rename_i j want hgd
    split at hw <;> try (exact hw.elim)
    rename_i g hg
    have hy := guardOf_ok hg r; have hwant : Region.wanted o (yielded ops a.tmps) = g := by unfold Region.wanted; rw [hgd]; exact hy
    rw [hwant]
    cases g with
    | false =>
      simp only [Bool.false_eq_true, if_false]; have hu : ∀ s, SR U ρ σ.heap w (.grd false s) undef := fun s => ⟨(fun h => by cases h), (fun _ => rfl)⟩
      unfold opG at hw; split at hw
      · split at hw <;> try (exact hw.elim)
        obtain ⟨s, hw⟩ := hw; exact put_ok hw.2 r (Go1.refl r.hr) (hu s)
      · split at hw <;> try (exact hw.elim)
        exact put_ok hw.2 r (Go1.refl r.hr) (hu _)
    | true =>
      rw [if_pos rfl]; refine .inl ?_; unfold opG at hw; split at hw
      · rename_i c hc
        split at hw <;> try (exact hw.elim)
        rename_i f caps hcal
        obtain ⟨s, hs, hk⟩ := hw; obtain ⟨hgp, hs⟩ := hs rfl; exact wp_call hc hcal hgp hs r fun v w1 U1 ρ1 g hsr => put_ok hk r g ⟨fun _ => hsr, fun h => by cases h⟩
      · split at hw <;> try (exact hw.elim)
        rename_i s h1 p ho
        obtain ⟨hp0, hk⟩ := hw; obtain ⟨hgp, hp, rfl⟩ := hp0 rfl; obtain ⟨v, w1, U1, ρ1, hrun, g, hsr⟩ := opR_ok (P := P) (ev := a.eval) ok ho hp r.hr r.ev hgp; have hsr' : SR U1 ρ1 σ.heap w1 (.grd true s) v := ⟨fun _ => hsr, fun h => by cases h⟩
        unfold Oper.wp; rcases hrun with hrun | ⟨hrun, rfl⟩
        · rw [hrun]; exact put_ok hk r g hsr'
        · rw [hrun]; exact put_ok hk r g hsr'
def asg (dst : Option Nat) : List Oper → Bool
  | [] => false
  | o :: r => match o.op, dst with
    | .assign (.tmp t), some d => nb t d || asg dst r
    | _, _ => asg dst r
def opsW (P : Program) (tb : Tb) (ops : Array Oper) : List Oper → St → (St → Prop) → Prop
  | [], σ, K => K σ
  | o :: r, σ, K => stepW P tb ops (asg o.dst r) o σ fun σ' => opsW P tb ops r σ' K
theorem opsW_ok {tb : Tb} {ops : Array Oper} {K : St → Prop} {Q : Exit → Act → World → Prop} (ok : TbOk P tb) : ∀ (l : List Oper) (i : Nat) (σ : St) (a : Act) (w : World), ops.toList.drop i = l → opsW P tb ops l σ K → R cx σ a w → (∀ σ' a' w', K σ' → R cx σ' a' w' → Q .normal a' w') → wpOps P ops Q (List.range' i l.length) a w
  | [], i, σ, a, w, hl, hw, r, hk => hk σ a w hw r
  | o :: rest, i, σ, a, w, hl, hw, r, hk => by
    have hi : ops[i]? = some o := by
      have := congrArg (fun l => l[0]?) hl; simpa [List.getElem?_drop] using this
    have hd : ops.toList.drop (i + 1) = rest := by
      rw [← List.drop_drop, hl]; rfl
    rw [List.length_cons, List.range'_succ, wpOps_cons]; refine wpOp_mono (fun a' w' h => ?_) (stepW_ok ok hi hw r); obtain ⟨σ', hw', r'⟩ := h; exact opsW_ok ok rest (i + 1) σ' a' w' hd hw' r' hk
def W (P : Program) (cx : Cx) (c : Code) (σ : St) (Q : Exit → St → Prop) : Prop := ∀ a w, R cx σ a w → c.wp P (fun e a' w' => ∃ σ', Q e σ' ∧ R cx σ' a' w') a w
theorem W.region {tb : Tb} {id : Nat} {ops : Array Oper} {Q : Exit → St → Prop} (ok : TbOk P tb) (hw : opsW P tb ops ops.toList σ (fun σ' => Q .normal σ')) : W P cx (.region id ops false) σ Q := fun a w r => by
  have := opsW_ok (cx := cx) (Q := fun e a' w' => ∃ σ', Q e σ' ∧ R cx σ' a' w') ok ops.toList 0 σ a w rfl hw r (fun σ' a' w' hk r' => ⟨σ', hk, r'⟩); refine wp_region ?_; rw [List.range_eq_range']; simpa using this
theorem W.mono {c : Code} {Q Q' : Exit → St → Prop} (hw : W P cx c σ Q) (hq : ∀ e σ', Q e σ' → Q' e σ') : W P cx c σ Q' := fun a w r => wp_mono (hw a w r) fun e a' w' ⟨σ', h, r'⟩ => ⟨σ', hq e σ' h, r'⟩
def then_ (Q : Exit → St → Prop) (K : St → Prop) : Exit → St → Prop
  | .normal, σ => K σ
  | e, σ => Q e σ
theorem W.seq {x y : Code} {Q : Exit → St → Prop} (hw : W P cx x σ (then_ Q fun σ' => W P cx y σ' Q)) : W P cx (.seq x y) σ Q := fun a w r => by
  refine wp_seq (wp_mono (hw a w r) fun e a' w' h => ?_); obtain ⟨σ', h, r'⟩ := h
  cases e with
  | normal => exact h a' w' r'
  | _ => exact ⟨σ', h, r'⟩
theorem W.skip {Q : Exit → St → Prop} (h : Q .normal σ) : W P cx .skip σ Q := fun a w r => wp_skip ⟨σ, h, r⟩
theorem W.ret {Q : Exit → St → Prop} (h : Q .ret σ) : W P cx .ret σ Q := fun a w r => wp_ret ⟨σ, h, r⟩
theorem W.exit {id : Nat} {Q : Exit → St → Prop} (h : Q (.exit id) σ) : W P cx (.exit id) σ Q := fun a w r => wp_exit ⟨σ, h, r⟩
def inBlk (id : Nat) (Q : Exit → St → Prop) : Exit → St → Prop
  | .exit id', σ => bif nb id' id then Q .normal σ else Q (.exit id') σ
  | e, σ => Q e σ
theorem W.block {id : Nat} {c : Code} {Q : Exit → St → Prop} (h : W P cx c σ (inBlk id Q)) : W P cx (.block id c) σ Q := fun a w r => by
  refine wp_block (wp_mono (h a w r) fun e a' w' h => ?_); obtain ⟨σ', h, r'⟩ := h
  cases e with
  | exit id' =>
    show if id' = id then _ else _
    by_cases e : id' = id
    · subst e; rw [if_pos rfl]; refine ⟨σ', ?_, r'⟩; simpa [inBlk] using h
    · rw [if_neg e]; refine ⟨σ', ?_, r'⟩; have : nb id' id = false := by cases hb : nb id' id; rfl; exact absurd (nb_eq hb) e
      simpa [inBlk, this] using h
  | _ => exact ⟨σ', h, r'⟩
def boolOf (σ : St) (c : Operand) (K : Bool → Prop) : Prop := match σ.ev c with
  | .one (.bool b) => K b
  | _ => False
theorem W.cond {c : Operand} {x y : Code} {Q : Exit → St → Prop} (h : boolOf σ c fun b => (b = true → W P cx x σ Q) ∧ (b = false → W P cx y σ Q)) : W P cx (.cond c x y) σ Q := fun a w r => by
  unfold boolOf at h; split at h <;> try (exact h.elim)
  rename_i b hb
  have hv : a.eval c = .bool b := by
    obtain ⟨U, ρ, r0⟩ := r; have := r0.ev c; rw [hb] at this; exact this
  exact wp_cond_split hv (fun e => h.1 e a w r) (fun e => h.2 e a w r)
def Le (cx : Cx) (σ σ1 : St) : Prop := ∀ a w, R cx σ a w → R cx σ1 a w
theorem Le.refl (cx : Cx) (σ : St) : Le cx σ σ := fun _ _ r => r
theorem W.le {c : Code} {σ1 : St} {Q : Exit → St → Prop} (hl : Le cx σ σ1) (h : W P cx c σ1 Q) : W P cx c σ Q := fun a w r => h a w (hl a w r)
theorem W.loop {α : Type} {c : Code} {Q : Exit → St → Prop} (I : α → St) (μ : α → Nat) (Φ : α → Prop) (x : α) (hx : Φ x) (h0 : Le cx σ (I x)) (round : ∀ x, Φ x → W P cx c (I x) (then_ Q fun σ' => ∃ y, Φ y ∧ Le cx σ' (I y) ∧ μ y < μ x)) : W P cx (.loop c) σ Q := fun a w r => by
  have key : ∀ n x, μ x < n → Φ x → ∀ a w, R cx (I x) a w → Code.rounds P c (fun e a' w' => ∃ σ', Q e σ' ∧ R cx σ' a' w') n a w := by
    intro n
    induction n with
    | zero => intro x h; omega
    | succ n ih =>
      intro x hn hx a w r; refine wp_mono (round x hx a w r) fun e a' w' h => ?_; obtain ⟨σ', h, r'⟩ := h
      cases e with
      | normal =>
        obtain ⟨y, hy, hl, hlt⟩ := h
        exact ih y (by omega) hy a' w' (hl a' w' r')
      | _ => exact ⟨σ', h, r'⟩
  exact wp_loop_rounds _ (key _ x (Nat.lt_succ_self _) hx a w (h0 a w r))
end
end Go.Den
end
section
-- the texts that this claim needs, out of this session's and its print's (wip/shrink.py)
namespace Go.Den
open Go Go.RowKit
def pos : List Nat → Nat → Option Nat
  | [], _ => none
  | x :: r, i => bif nb x i then some 0 else (pos r i).map (· + 1)
theorem pos_at : ∀ {l : List Nat} {i j : Nat}, pos l i = some j → l[j]? = some i
  | [], i, j, h => by cases h
  | x :: r, i, j, h => by
    unfold pos at h
    cases hb : nb x i with
    | true =>
      rw [hb] at h; obtain rfl := Option.some.inj h
      rw [nb_eq hb]; rfl
    | false =>
      rw [hb] at h; obtain ⟨j', h1, rfl⟩ := Option.map_eq_some_iff.1 (show (pos r i).map (· + 1) = some j from h); simpa using pos_at h1
def C.ren (src : List Nat) : C → C
  | .own id => match pos src id with
    | some j => .own j
    | none => .dead
  | .sub id lo hi => match pos src id with
    | some j => .sub j lo hi
    | none => .dead
  | .ptr id off => match pos src id with
    | some j => .ptr j off
    | none => .dead
  | .elt id i off => match pos src id with
    | some j => .elt j i off
    | none => .dead
  | .fn f caps => match caps.mapM (pos src) with
    | some l => .fn f l
    | none => .dead
  | c => c
def S.ren (src : List Nat) : S → S
  | .undef => .undef
  | .one c => .one (c.ren src)
  | .agg l => .agg (l.map (C.ren src))
  | .tup l => .tup (l.map fun p => (p.1, p.2.map (C.ren src)))
  | .grd b s => .grd b (s.ren src)
  | .raw v => .raw v
def Blk.ren (src : List Nat) : Blk → Blk
  | .box t l => .box t (l.map (C.ren src))
  | b => b
def heapCut (src : List Nat) (h : List Blk) : List Blk := src.map fun i => (h.getD i .dead).ren src
def St.cut (live src : List Nat) (σ : St) : St := { env := live.map fun t => (t, (σ.get t).ren src), heap := heapCut src σ.heap, n := σ.n }
def srcOk (src : List Nat) (n0 n : Nat) : Bool := src.all (fun i => nlt i n) && decide src.Nodup && (List.range n0).all fun i => src[i]? == some i
section
variable {P : Program} {cx : Cx} {U U1 : Nat → Prop} {ρ ρ1 : Nat → Value} {σ : St} {h h1 : List Blk} {a : Act} {w w1 : World} {src : List Nat}
def ρcut (ρ : Nat → Value) (src : List Nat) : Nat → Value := fun j => ρ (src.getD j 0)
theorem cut_get {j i : Nat} (hl : ∀ i ∈ src, i < h.length) (hj : src[j]? = some i) : ∃ b, h[i]? = some b ∧ (heapCut src h)[j]? = some (b.ren src) := by
  have hi := hl i (List.mem_of_getElem? hj); refine ⟨h[i], List.getElem?_eq_getElem hi, ?_⟩; unfold heapCut; rw [List.getElem?_map, hj]; simp [hi]
theorem cut_rowK {j i : Nat} (hl : ∀ i ∈ src, i < h.length) (hj : src[j]? = some i) : rowK (heapCut src h) j = rowK h i := by
  obtain ⟨b, h1, h2⟩ := cut_get hl hj; unfold rowK; rw [h1, h2]
  cases b <;> rfl
theorem cut_isBox {j i : Nat} (hl : ∀ i ∈ src, i < h.length) (hj : src[j]? = some i) : isBox (heapCut src h) j = isBox h i := by
  obtain ⟨b, h1, h2⟩ := cut_get hl hj; unfold isBox; rw [h1, h2]
  cases b <;> rfl
theorem ρcut_at {j i : Nat} (hj : src[j]? = some i) : ρcut ρ src j = ρ i := by
  unfold ρcut; rw [List.getD_eq_getElem?_getD, hj]; rfl
theorem cut_place {j i : Nat} (hl : ∀ i ∈ src, i < h.length) (hj : src[j]? = some i) : place (ρcut ρ src) (heapCut src h) j = place ρ h i := by
  obtain ⟨b, h1, h2⟩ := cut_get hl hj; unfold place; rw [h1, h2, ρcut_at hj]
  cases b <;> rfl
theorem cut_lt {j i : Nat} (hj : src[j]? = some i) : j < (heapCut src h).length := by
  unfold heapCut; rw [List.length_map]; exact (List.getElem?_eq_some_iff.1 hj).1
theorem mapM_pos : ∀ {l r : List Nat}, l.mapM (pos src) = some r → All2 (fun i j => src[j]? = some i) l r
  | [], r, h => by
    obtain rfl : [] = r := by simpa using h
    exact All2.nil
  | x :: l, r, h => by
    rw [List.mapM_cons] at h
    cases h1 : pos src x with
    | none => rw [h1] at h; cases h
    | some j =>
      cases h2 : l.mapM (pos src) with
      | none => rw [h1, h2] at h; cases h
      | some r' =>
        rw [h1, h2] at h; obtain rfl := Option.some.inj h; exact All2.cons (pos_at h1) (mapM_pos h2)
theorem CR.ren (hl : ∀ i ∈ src, i < h.length) {c : C} {v : Value} (hc : CR U ρ h w c v) : CR U (ρcut ρ src) (heapCut src h) w (c.ren src) v := by
  have h1 := CR.one hc
  cases c with
  | own id =>
    show CR U (ρcut ρ src) (heapCut src h) w (match pos src id with | some j => .own j | none => .dead) v; split
    · rename_i j hj
      have hj := pos_at hj; exact ⟨h1, cut_lt hj, fun k hk => by rw [cut_rowK hl hj] at hk; rw [ρcut_at hj]; exact hc.2.2 k hk⟩
    · exact h1
  | sub id lo hi =>
    show CR U (ρcut ρ src) (heapCut src h) w (match pos src id with | some j => .sub j lo hi | none => .dead) v; split
    · rename_i j hj
      have hj := pos_at hj; exact ⟨h1, cut_lt hj, fun k hk => by rw [cut_rowK hl hj] at hk; rw [ρcut_at hj]; exact hc.2.2 k hk⟩
    · exact h1
  | ptr id off =>
    show CR U (ρcut ρ src) (heapCut src h) w (match pos src id with | some j => .ptr j off | none => .dead) v; split
    · rename_i j hj
      have hj := pos_at hj; exact ⟨h1, cut_lt hj, fun hk => by rw [cut_isBox hl hj] at hk; rw [ρcut_at hj]; exact hc.2.2 hk⟩
    · exact h1
  | elt id i off =>
    show CR U (ρcut ρ src) (heapCut src h) w (match pos src id with | some j => .elt j i off | none => .dead) v; split
    · rename_i j hj
      have hj := pos_at hj; exact ⟨h1, cut_lt hj, fun k hk => by rw [cut_rowK hl hj] at hk; rw [ρcut_at hj]; exact hc.2.2 k hk⟩
    · exact h1
  | fn f caps =>
    show CR U (ρcut ρ src) (heapCut src h) w (match caps.mapM (pos src) with | some l => .fn f l | none => .dead) v; split
    · rename_i l hm
      obtain ⟨vs, rfl, ha⟩ := hc; have hp := mapM_pos hm; refine ⟨vs, rfl, hp.1.symm.trans ha.1, fun i j u hj hu => ?_⟩
      obtain ⟨id, hid, hr⟩ : ∃ id, caps[i]? = some id ∧ src[j]? = some id := by
        have hi : i < caps.length := by rw [hp.1]; exact (List.getElem?_eq_some_iff.1 hj).1
        exact ⟨caps[i], List.getElem?_eq_getElem hi, hp.2 i _ j (List.getElem?_eq_getElem hi) hj⟩
      obtain ⟨a1, a2, a3⟩ := ha.2 i id u hid hu; exact ⟨a1, cut_lt hr, fun hb => by rw [cut_isBox hl hr] at hb; rw [ρcut_at hr]; exact a3 hb⟩
    · exact h1
  | _ => exact hc
theorem All2.ren (hl : ∀ i ∈ src, i < h.length) {l : List C} {us : List Value} (ha : All2 (CR U ρ h w) l us) : All2 (CR U (ρcut ρ src) (heapCut src h) w) (l.map (C.ren src)) us := ⟨by simpa using ha.1, fun i c v hc hv => by
  rw [List.getElem?_map] at hc
  cases hq : l[i]? with
  | none => rw [hq] at hc; cases hc
  | some c0 =>
    rw [hq] at hc; obtain rfl := Option.some.inj hc
    exact (ha.2 i c0 v hq hv).ren hl⟩
theorem SR.ren (hl : ∀ i ∈ src, i < h.length) : ∀ {s : S} {v : Value}, SR U ρ h w s v → SR U (ρcut ρ src) (heapCut src h) w (s.ren src) v
  | .undef, _, _ => trivial
  | .one c, _, hs => CR.ren hl hs
  | .agg l, _, ⟨us, hv, ha⟩ => ⟨us, hv, ha.ren hl⟩
  | .tup l, _, ⟨vs, hv, ha⟩ => ⟨vs, hv, by simpa using ha.1, fun i p v hp hv' => by
      rw [List.getElem?_map] at hp
      cases hq : l[i]? with
      | none => rw [hq] at hp; cases hp
      | some p0 =>
        rw [hq] at hp; obtain rfl := Option.some.inj hp; have := ha.2 i p0 v hq hv'; unfold PartR at this ⊢; split
        · rename_i hb
          rw [if_pos hb] at this; obtain ⟨cs, hv, ha⟩ := this; exact ⟨cs, hv, ha.ren hl⟩
        · rename_i hb
          rw [if_neg hb] at this; obtain ⟨c, hv, ha⟩ := this
          exact ⟨c.ren src, by show p0.2.map _ = _; rw [hv]; rfl, ha.ren hl⟩⟩
  | .grd b s, _, hs => ⟨fun hb => SR.ren hl (hs.1 hb), hs.2⟩
  | .raw _, _, hs => hs
theorem look_cut {σ : St} : ∀ (live : List Nat) (t : Nat), look (live.map fun t => (t, (σ.get t).ren src)) t = (σ.get t).ren src ∨ look (live.map fun t => (t, (σ.get t).ren src)) t = .undef
  | [], t => .inr rfl
  | x :: r, t => by
    show (bif nb x t then _ else _) = _ ∨ (bif nb x t then _ else _) = _
    cases hb : nb x t with
    | true => rw [nb_eq hb]; exact .inl rfl
    | false => exact look_cut r t
theorem cut_all {h0 : List Blk} {ρ0 : Nat → Value} {Z : Nat → Prop} (hs : srcOk src h0.length h.length = true) (hr : HR U ρ h w) (hext : Ext ρ0 h0 ρ h) (hpl : ∀ i g, place ρ h i = some g → Z g) :
    (∀ i ∈ src, i < h.length) ∧ HR U (ρcut ρ src) (heapCut src h) w ∧ Ext ρ0 h0 (ρcut ρ src) (heapCut src h) ∧ ∀ i g, place (ρcut ρ src) (heapCut src h) i = some g → Z g := by
  unfold srcOk at hs; simp only [Bool.and_eq_true] at hs; obtain ⟨⟨h1, h2⟩, h3⟩ := hs; have hl : ∀ i ∈ src, i < h.length := fun i hi => nle_le (List.all_eq_true.1 h1 i hi); have hnd : src.Nodup := of_decide_eq_true h2
  have hid : ∀ i, i < h0.length → src[i]? = some i := fun i hi => by
    have := List.all_eq_true.1 h3 i (List.mem_range.2 hi); simpa using this
  have hsrc : ∀ j b, (heapCut src h)[j]? = some b → ∃ i, src[j]? = some i := fun j b hb => by
    have hj : j < src.length := by have := (List.getElem?_eq_some_iff.1 hb).1; simpa [heapCut] using this
    exact ⟨src[j], List.getElem?_eq_getElem hj⟩
  have hpp : ∀ i g, place (ρcut ρ src) (heapCut src h) i = some g → ∃ i', src[i]? = some i' ∧ place ρ h i' = some g := fun i g hi => by
    have hlt := place_lt hi; have hi' : src[i]? = some (src[i]'(by simpa [heapCut] using hlt)) := List.getElem?_eq_getElem _; exact ⟨_, hi', (cut_place (ρ := ρ) hl hi').symm.trans hi⟩
  refine ⟨hl, ⟨fun j b hb => ?_, fun i j g hi hj => ?_, fun i g hi => ?_⟩, ⟨?_, fun i k hi hk => ?_, fun i hi hk => ?_⟩, fun i g hi => ?_⟩
  · obtain ⟨i, hi⟩ := hsrc j b hb; obtain ⟨b0, e1, e2⟩ := cut_get hl hi; rw [e2] at hb; obtain rfl := Option.some.inj hb; have hbr := hr.blk i b0 e1
    cases b0 with
    | box t l =>
      obtain ⟨g, arr, e3, e4, e5⟩ := hbr
      exact ⟨g, arr, by rw [ρcut_at hi]; exact e3, e4, e5.ren hl⟩
    | row e k xs =>
      obtain ⟨cs, e3, e4⟩ := hbr
      exact ⟨cs, by rw [ρcut_at hi]; exact e3, e4⟩
    | frz e k xs =>
      show KS U w _ _ [ρcut ρ src j]
      rw [ρcut_at hi]; exact hbr
    | dead => trivial
  · obtain ⟨i', hi', e1⟩ := hpp i g hi; obtain ⟨j', hj', e2⟩ := hpp j g hj; obtain rfl := hr.apart i' j' g e1 e2; exact (List.getElem?_inj (List.getElem?_eq_some_iff.1 hi').1 hnd).1 (hi'.trans hj'.symm)
  · obtain ⟨i', hi', e1⟩ := hpp i g hi; exact hr.inU i' g e1
  · unfold heapCut; rw [List.length_map]; rcases Nat.lt_or_ge src.length h0.length with h | h
    · have := hid src.length h; rw [List.getElem?_eq_none (Nat.le_refl _)] at this
      cases this
    · exact h
  · rw [cut_rowK hl (hid i hi)] at hk; obtain ⟨e1, e2⟩ := hext.row i k hi hk; exact ⟨e1, by rw [ρcut_at (hid i hi)]; exact e2⟩
  · rw [cut_isBox hl (hid i hi)] at hk; obtain ⟨e1, e2⟩ := hext.box i hi hk; exact ⟨e1, by rw [ρcut_at (hid i hi)]; exact e2⟩
  · obtain ⟨i', hi', e1⟩ := hpp i g hi; exact hpl i' g e1
theorem Le.cut (live : List Nat) (src : List Nat) (hs : srcOk src cx.h0.length σ.heap.length = true) : Le cx σ (σ.cut live src) := by
  intro a w ⟨U, ρ, r⟩; obtain ⟨hl, hhr, hex, hpl⟩ := cut_all hs r.hr r.ext r.places; refine ⟨U, ρcut ρ src, r.size, r.defers, fun t => ?_, hhr, r.agree, r.newU, r.oldU, hpl, hex⟩; rcases look_cut (src := src) (σ := σ) live t with e | e
  · have h2 : SR U (ρcut ρ src) (heapCut src σ.heap) w (look (live.map fun t => (t, (σ.get t).ren src)) t) (a.tmps.getD t undef) := by rw [e]; exact (r.env t).ren hl
    exact h2
  · have h2 : SR U (ρcut ρ src) (heapCut src σ.heap) w (look (live.map fun t => (t, (σ.get t).ren src)) t) (a.tmps.getD t undef) := by rw [e]; trivial
    exact h2
end
end Go.Den
end
section
-- the texts that this claim needs, out of this session's and its print's (wip/shrink.py)
namespace Go.Den
open Go Go.RowKit
section
variable {P : Program} {cx : Cx} {U U1 : Nat → Prop} {ρ ρ1 : Nat → Value} {σ : St} {h h1 : List Blk} {a : Act} {w w1 : World} {src : List Nat}
def resL (tb : Tb) (σ : St) : List ResultVar → List Blk → Option (List S × List Blk × Prop)
  | [], h => some ([], h, True)
  | .tmp t :: r, h => match resL tb σ r h with
    | some (l, h1, p) => some (σ.get t :: l, h1, p)
    | none => none
  | .cell t ty :: r, h => match isAddr h (σ.get t), loadR tb ty (σ.get t) h with
    | true, some (s, h1, p) => match resL tb σ r h1 with
      | some (l, h2, q) => some (s :: l, h2, p ∧ q)
      | none => none
    | _, _ => none
def partOf : S → Option (Bool × List C)
  | .one c => some (false, [c])
  | .agg l => some (true, l)
  | _ => none
def tupOf : List S → Option S
  | [s] => some s
  | l => match l.mapM partOf with
    | some ps => some (.tup ps)
    | none => none
def resOne (tmps : Array Value) : ResultVar → Sem Value
  | .tmp t => pure (tmps.getD t undef)
  | .cell a t => do loadVar t (← asAddr (tmps.getD a undef))
theorem results_eq (fn : Func) (tmps : Array Value) : results fn tmps = (do let vs ← fn.results.mapM (resOne tmps); pure (if h : vs.size = 1 then vs[0] else .tuple vs) : Sem Value) := by
  unfold results; congr
theorem resL_ok {tb : Tb} (ok : TbOk P tb) : ∀ (l : List ResultVar) {U : Nat → Prop} {h : List Blk} {ss : List S} {h1 : List Blk} {p : Prop}, resL tb σ l h = some (ss, h1, p) → p → HR U ρ h w → (∀ t, SR U ρ h w (σ.get t) (a.tmps.getD t undef)) →
    ∃ U1 vs, Go1 U ρ h w U1 ρ h1 w ∧ All2 (SR U1 ρ h1 w) ss vs ∧ ∀ acc : Array Value, (l.foldlM (fun bs x => bs.push <$> resOne a.tmps x) acc).run P w = .ok (acc ++ vs.toArray) w
  | [], U, h, ss, h1, p, hl, hp, hr, he => by
    obtain ⟨rfl, h2⟩ := (Prod.mk.injEq ..).mp (Option.some.inj hl); obtain ⟨rfl, rfl⟩ := (Prod.mk.injEq ..).mp h2
    exact ⟨U, [], Go1.refl hr, All2.nil, fun acc => by simp⟩
  | .tmp t :: r, U, h, ss, h1, p, hl, hp, hr, he => by
    unfold resL at hl; split at hl <;> try (cases hl; done)
    rename_i l h1' p' hq
    obtain ⟨rfl, h2⟩ := (Prod.mk.injEq ..).mp (Option.some.inj hl); obtain ⟨rfl, rfl⟩ := (Prod.mk.injEq ..).mp h2; obtain ⟨U1, vs, g, ha, hrun⟩ := resL_ok ok r hq hp hr he; refine ⟨U1, a.tmps.getD t undef :: vs, g, All2.cons (SR.tr (g.tr hr) g.ext (he t)) ha, fun acc => ?_⟩; rw [List.foldlM_cons]; simp only [map_eq_pure_bind, resOne, Sem.run_bind, Sem.run_pure, Result.andThen_ok] at hrun ⊢; rw [hrun]
    simp
  | .cell t ty :: r, U, h, ss, h1, p, hl, hp, hr, he => by
    unfold resL at hl; split at hl <;> try (cases hl; done)
    rename_i s h2 p1 hia hq
    split at hl <;> try (cases hl; done)
    rename_i l h3 p2 hq2
    obtain ⟨rfl, h4⟩ := (Prod.mk.injEq ..).mp (Option.some.inj hl); obtain ⟨rfl, rfl⟩ := (Prod.mk.injEq ..).mp h4; obtain ⟨ad, had⟩ := isAddr_ok hia (he t); obtain ⟨v, U1, hv, g1, hs1⟩ := loadR_ok' (P := P) ok hq hp.1 hr (he t); obtain ⟨U2, vs, g2, ha, hrun⟩ := resL_ok ok r hq2 hp.2 g1.hr (fun t => SR.tr (g1.tr hr) g1.ext (he t)); refine ⟨U2, v :: vs, g1.trans g2, All2.cons (SR.tr (g2.tr g1.hr) g2.ext hs1) ha, fun acc => ?_⟩; rw [had] at hv; have hv' : (loadVar ty ad).run P w = .ok v w := by simpa [Instr.loadAt, Instr.sureAddr] using hv
    rw [List.foldlM_cons]; simp only [map_eq_pure_bind, resOne, Sem.run_bind, Sem.run_pure, Result.andThen_ok, had, asAddr, hv'] at hrun ⊢; rw [hrun]; simp
theorem tupOf_ok {ss : List S} {s : S} {vs : List Value} (ht : tupOf ss = some s) (ha : All2 (SR U ρ h w) ss vs) : SR U ρ h w s (if hv : vs.toArray.size = 1 then vs.toArray[0] else .tuple vs.toArray) := by
  unfold tupOf at ht; split at ht
  · obtain rfl := Option.some.inj ht; obtain ⟨v, vs', rfl, h1, h2⟩ := ha.left_cons; obtain rfl := h2.left_nil; exact h1
  · rename_i hn
    split at ht <;> try (cases ht; done)
    rename_i ps hps
    obtain rfl := Option.some.inj ht
    have hlen : vs.toArray.size ≠ 1 := fun h1 => by
      have h2 : ss.length = 1 := by rw [ha.1]; simpa using h1
      cases ss with
      | nil => cases h2
      | cons s r => cases r with
        | nil => exact hn s rfl
        | cons _ _ => simp at h2
    rw [dif_neg hlen]; refine ⟨_, rfl, ?_⟩; show All2 _ ps vs; clear hn hlen ht
    induction ss generalizing vs ps with
    | nil =>
      rw [ha.left_nil]; obtain rfl : [] = ps := by simpa using hps
      exact All2.nil
    | cons s r ih =>
      obtain ⟨v, vs', rfl, h1, h2⟩ := ha.left_cons; rw [List.mapM_cons] at hps
      cases e1 : partOf s with
      | none => rw [e1] at hps; cases hps
      | some p =>
        cases e2 : r.mapM partOf with
        | none => rw [e1, e2] at hps; cases hps
        | some ps' =>
          rw [e1, e2] at hps; obtain rfl := Option.some.inj hps; refine All2.cons ?_ (ih h2 ps' e2); unfold partOf at e1; split at e1 <;> try (cases e1; done)
          · obtain rfl := Option.some.inj e1; exact ⟨_, rfl, h1⟩
          · obtain rfl := Option.some.inj e1; exact h1
def enum : Nat → List S → List (Nat × S)
  | _, [] => []
  | n, s :: r => (n, s) :: enum (n + 1) r
theorem look_enum : ∀ (l : List S) (n t : Nat), look (enum n l) t = if n ≤ t then (l[t - n]?).getD .undef else .undef
  | [], n, t => by simp [enum, look]
  | s :: r, n, t => by
    show (bif nb n t then s else look (enum (n + 1) r) t) = _
    cases hb : nb n t with
    | true =>
      obtain rfl := nb_eq hb
      simp
    | false =>
      have hne := nb_ne hb; show look (enum (n + 1) r) t = _; rw [look_enum r (n + 1) t]
      by_cases h1 : n + 1 ≤ t
      · rw [if_pos h1, if_pos (by omega)]; have : t - n = (t - (n + 1)) + 1 := by omega
        rw [this, List.getElem?_cons_succ]
      · rw [if_neg h1]; split
        · omega
        · rfl
def endW (tb : Tb) (fn : Func) (cx : Cx) (s : S) (h1 : List Blk) (σ : St) : Prop := match resL tb σ fn.results.toList σ.heap with
  | some (l, h2, p) => p ∧ match tupOf l with
    | some r => ∃ src : List Nat, srcOk src cx.h0.length h2.length = true ∧ r.ren src = s ∧ heapCut src h2 = h1
    | none => False
  | none => False
def fnQ (tb : Tb) (fn : Func) (cx : Cx) (s : S) (h1 : List Blk) : Exit → St → Prop
  | .normal, σ => endW tb fn cx s h1 σ
  | .ret, σ => endW tb fn cx s h1 σ
  | _, _ => False
theorem CallStep.intro {tb : Tb} {f : Nat} {fn : Func} {c : Code} {xs : List S} {s : S} (ok : TbOk P tb) (hf : P.funcs[f]? = some fn) (hn : (fn.name == "runtime.NumGoroutine") = false) (hb : fn.body = some c) (hlen : xs.length ≤ fn.ntmps)
    (hw : ∀ cx : Cx, cx.h0 = h → W P cx c { env := enum 0 xs, heap := h, n := fn.ntmps } (fnQ tb fn cx s h1)) : CallStep P f xs h s h1 := by
  refine ⟨⟨fn, c, hf, hn, hb⟩, fun U ρ w vs hr ha => ?_⟩; have hvl : vs.size = xs.length := by rw [ha.1]; simp
  let cx : Cx := { w0 := w, U0 := U, W0 := Wr ρ h, h0 := h, ρ0 := ρ }
  have r0 : R cx { env := enum 0 xs, heap := h, n := fn.ntmps } { tmps := vs ++ Array.replicate (fn.ntmps - vs.size) undef, defers := [] } w := by
    refine ⟨U, ρ, by simp; omega, rfl, fun t => ?_, hr, Agree.refl _ _, fun _ _ h => h, fun _ _ h => .inl h, fun i g hi => .inl ⟨i, hi⟩, Ext.refl _ _⟩; show SR U ρ h w (look (enum 0 xs) t) _; rw [look_enum, if_pos (Nat.zero_le _), Nat.sub_zero]
    cases hx : xs[t]? with
    | none => trivial
    | some x =>
      obtain ⟨v, hv, hs⟩ := ha.get hx; have hlt : t < vs.size := by rw [hvl]; exact (List.getElem?_eq_some_iff.1 hx).1
      have : (vs ++ Array.replicate (fn.ntmps - vs.size) undef).getD t undef = v := by
        rw [Array.getElem?_toList] at hv; rw [Array.getD_eq_getD_getElem?, Array.getElem?_append_left hlt, hv]; rfl
      rw [this]; exact hs
  refine calls_of_wp hf hb (wp_mono (hw cx rfl _ w r0) fun e a' w' h => ?_); obtain ⟨σ', hq, U1, ρ1, r1⟩ := h
  have fin : endW tb fn cx s h1 σ' → a'.defers = [] ∧ ∃ v, (results fn a'.tmps).run P w' = .ok v w' ∧ (∃ v1 U1 ρ1, Ending.returned v = .returned v1 ∧ Go1 U ρ h w U1 ρ1 h1 w' ∧ SR U1 ρ1 h1 w' s v1) := fun he => by
    unfold endW at he; split at he <;> try (exact he.elim)
    rename_i l h2 p hl
    obtain ⟨hp, he⟩ := he; split at he <;> try (exact he.elim)
    rename_i r hr'
    obtain ⟨src, hsrc, rfl, rfl⟩ := he; obtain ⟨U2, us, g2, ha2, hrun⟩ := resL_ok (P := P) (a := a') ok _ hl hp r1.hr r1.env; have r2 := r1.step g2; obtain ⟨hli, hhr, hex, hpl⟩ := cut_all hsrc r2.hr r2.ext r2.places; have hsr := (tupOf_ok hr' ha2).ren hli; refine ⟨r1.defers, _, ?_, _, U2, ρcut ρ1 src, rfl, ⟨r2.agree, r2.newU, r2.oldU, hhr, hex, hpl⟩, hsr⟩; have h3 := hrun #[]; rw [Array.foldlM_toList, ← Array.mapM_eq_foldlM] at h3; rw [results_eq]; simp only [Sem.run_bind]; rw [h3]; simp only [Result.andThen_ok, Sem.run_pure, Array.empty_append]
  cases e with
  | normal => exact fin hq
  | ret => exact fin hq
  | exit id => exact hq.elim
  | goto l => exact hq.elim
  | panic c => exact hq.elim
  | outgrown => exact hq.elim
end
end Go.Den
end
