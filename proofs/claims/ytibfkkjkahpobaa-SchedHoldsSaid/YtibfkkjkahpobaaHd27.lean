import Derived.Test.YtibfkkjkahpobaaHd26
set_option linter.unusedVariables false
set_option linter.unusedSimpArgs false
set_option maxHeartbeats 8000000
set_option maxRecDepth 100000
section
-- the texts that this claim needs, out of this session's and its print's (wip/shrink.py)
namespace Go.Den
open Go Go.RowKit
inductive TD where
  | other | bool | str
  | int (k : IntKind)
  | ptr (e : Nat)
  | slice (e : Nat)
  | arr (n e : Nat)
  | st (fs : List (Nat × Nat))
  deriving DecidableEq
def tdOf : TypeDesc → TD
  | .bool => .bool
  | .string => .str
  | .int k => .int k
  | .pointer e => .ptr e
  | .slice e => .slice e
  | .array n e => .arr n e
  | .struct fs => .st (fs.toList.map fun f => (f.offset, f.type))
  | _ => .other
structure TI where
  d : TD
  sz : Nat
  by_ : Nat
  z : List Value
  k : Option K
  q : List C → List C → Option Bool
def q0 : List C → List C → Option Bool := fun _ _ => none
def eqZ : List Value → List C → List C → Option Bool
  | [], cs, ds => match cs, ds with
    | [], [] => some true
    | _, _ => none
  | v :: z, cs, ds => match v, cs, ds with
    | .int k _, .int k1 a :: l, .int k2 b :: m => if k1 = k then (if k2 = k then (eqZ z l m).map fun r => (a == b) && r else none) else none
    | .string _, .str a :: l, .str b :: m => (eqZ z l m).map fun r => (a.toList == b.toList) && r
    | _, _, _ => none
theorem eqZ_nil {cs ds : List C} {r : Bool} (h : eqZ [] cs ds = some r) : cs = [] ∧ ds = [] ∧ r = true := by
  unfold eqZ at h; split at h
  · exact ⟨rfl, rfl, (Option.some.inj h).symm⟩
  · cases h
theorem eqZ_int {k : IntKind} {n : Int} {z : List Value} {cs ds : List C} {r : Bool} (h : eqZ (.int k n :: z) cs ds = some r) : ∃ a b l m r', cs = .int k a :: l ∧ ds = .int k b :: m ∧ eqZ z l m = some r' ∧ r = ((a == b) && r') := by
  unfold eqZ at h; split at h <;> try (cases h; done)
  · rename_i k' _ k1 a l k2 b m hv
    injection hv with e1 e2
    subst e1; split at h <;> try (cases h; done)
    rename_i hk1
    split at h <;> try (cases h; done)
    rename_i hk2
    subst hk1; subst hk2; obtain ⟨r', hr, he⟩ := Option.map_eq_some_iff.1 h; exact ⟨a, b, l, m, r', rfl, rfl, hr, he.symm⟩
  · rename_i hv; cases hv
theorem eqZ_str {s : ByteArray} {z : List Value} {cs ds : List C} {r : Bool} (h : eqZ (.string s :: z) cs ds = some r) : ∃ a b l m r', cs = .str a :: l ∧ ds = .str b :: m ∧ eqZ z l m = some r' ∧ r = ((a.toList == b.toList) && r') := by
  unfold eqZ at h; split at h <;> try (cases h; done)
  · rename_i hv; cases hv
  · rename_i a l b m hv
    obtain ⟨r', hr, he⟩ := Option.map_eq_some_iff.1 h; exact ⟨a, b, l, m, r', rfl, rfl, hr, he.symm⟩
def vC : Value → C
  | .int k n => .int k n
  | .bool b => .bool b
  | .string s => .str s
  | .slice none 0 0 => .nil
  | .pointer none => .nilp
  | _ => .dead
structure TOk (P : Program) (t : Nat) (i : TI) : Prop where
  info : (P.info? t).map (fun q => (q.zero.map (·.cells.toList), q.size, q.bytes)) = some (some i.z, i.sz, i.by_)
  und : (P.underlying t).map tdOf = some i.d
  ones : ∀ v ∈ i.z, v.oneCell' = true
  zl : i.z.length = i.sz
  kind : ∀ k, i.k = some k → k.sz = i.sz ∧ k.fit (i.z.map vC) = some (k.zero, [])
  eqv : ∀ {cs ds r}, i.q cs ds = some r → P.eqGuardType P.depth t = false ∧ ∀ {U ρ h w xs ys}, All2 (CR U ρ h w) cs xs → All2 (CR U ρ h w) ds ys → (Op.equal t (.agg xs.toArray) (.agg ys.toArray)).run P w = .ok r w
abbrev Tb := List (Nat × TI)
def Tb.at (tb : Tb) (t : Nat) : Option TI := match tb with
  | [] => none
  | (t', i) :: r => bif nb t' t then some i else Tb.at r t
def TbOk (P : Program) (tb : Tb) : Prop := ∀ p ∈ tb, TOk P p.1 p.2
theorem TbOk.at {P : Program} : ∀ {tb : Tb}, TbOk P tb → ∀ {t : Nat} {i : TI}, Tb.at tb t = some i → TOk P t i
  | [], _, t, i, h => by cases h
  | (t', j) :: r, ok, t, i, h => by
    unfold Tb.at at h
    cases hb : nb t' t with
    | true =>
      rw [hb] at h; obtain rfl := Option.some.inj h; obtain rfl := nb_eq hb
      exact ok (t', j) (by simp)
    | false =>
      rw [hb] at h; exact TbOk.at (tb := r) (fun p hp => ok p (by simp [hp])) h
section
variable {P : Program} {t : Nat} {i : TI}
theorem TOk.slice {e : Nat} (h : TOk P t i) (hd : i.d = .slice e) : P.underlying t = some (.slice e) := by
  have := h.und
  cases hu : P.underlying t with
  | none => rw [hu] at this; cases this
  | some d =>
    rw [hu, hd] at this; have h2 := Option.some.inj this
    cases d <;> simp only [tdOf, TD.slice.injEq, reduceCtorEq] at h2
    rw [h2]
theorem TOk.arr {n e : Nat} (h : TOk P t i) (hd : i.d = .arr n e) : P.underlying t = some (.array n e) := by
  have := h.und
  cases hu : P.underlying t with
  | none => rw [hu] at this; cases this
  | some d =>
    rw [hu, hd] at this; have h2 := Option.some.inj this
    cases d <;> simp only [tdOf, TD.arr.injEq, reduceCtorEq] at h2
    rw [h2.1, h2.2]
theorem TOk.int {k : IntKind} (h : TOk P t i) (hd : i.d = .int k) : P.underlying t = some (.int k) := by
  have := h.und
  cases hu : P.underlying t with
  | none => rw [hu] at this; cases this
  | some d =>
    rw [hu, hd] at this; have h2 := Option.some.inj this
    cases d <;> simp only [tdOf, TD.int.injEq, reduceCtorEq] at h2
    rw [h2]
theorem TOk.str (h : TOk P t i) (hd : i.d = .str) : P.underlying t = some .string := by
  have := h.und
  cases hu : P.underlying t with
  | none => rw [hu] at this; cases this
  | some d =>
    rw [hu, hd] at this; have h2 := Option.some.inj this
    cases d <;> simp only [tdOf, reduceCtorEq] at h2
    rfl
theorem TOk.st {fs : List (Nat × Nat)} (h : TOk P t i) (hd : i.d = .st fs) : ∃ fields, P.underlying t = some (.struct fields) ∧ fields.toList.map (fun f => (f.offset, f.type)) = fs := by
  have := h.und
  cases hu : P.underlying t with
  | none => rw [hu] at this; cases this
  | some d =>
    rw [hu, hd] at this; have h2 := Option.some.inj this
    cases d <;> simp only [tdOf, TD.st.injEq, reduceCtorEq] at h2
    exact ⟨_, rfl, h2⟩
theorem TOk.inf (h : TOk P t i) : ∃ q z, P.info? t = some q ∧ q.size = i.sz ∧ q.bytes = i.by_ ∧ q.zero = some z ∧ z.cells.toList = i.z := by
  have := h.info
  cases hu : P.info? t with
  | none => rw [hu] at this; cases this
  | some q =>
    rw [hu] at this; have h2 := Option.some.inj this; simp only [Prod.mk.injEq] at h2; obtain ⟨h2, h3, h4⟩ := h2
    cases hz : q.zero with
    | none => rw [hz] at h2; cases h2
    | some z =>
      rw [hz] at h2; exact ⟨q, z, rfl, h3, h4, hz, Option.some.inj h2⟩
theorem zlen (h : TOk P t i) : i.z.length = i.sz := h.zl
theorem TOk.sizeOf (h : TOk P t i) (w : World) : (sizeOf t).run P w = .ok i.sz w := by
  obtain ⟨q, z, h1, h2, _⟩ := h.inf; simp [Go.sizeOf, typeInfo, h1, h2]
def TD.agg : TD → Bool
  | .st _ => true
  | .arr _ _ => true
  | _ => false
theorem TOk.isAgg (h : TOk P t i) (w : World) : (isAgg t).run P w = .ok i.d.agg w := by
  have := h.und
  cases hu : P.underlying t with
  | none => rw [hu] at this; cases this
  | some d =>
    rw [hu] at this; have h2 := Option.some.inj this; simp only [Go.isAgg, Sem.run_bind, run_underlying hu, Result.andThen_ok]; rw [← h2]
    cases d <;> simp [tdOf, TD.agg]
end
section
variable {U : Nat → Prop} {ρ : Nat → Value} {h : List Blk} {w : World}
theorem CR.of_val {v : Value} (ho : v.oneCell' = true) : CR U ρ h w (vC v) v := by
  unfold vC; split
  · rfl
  · rfl
  · rfl
  · rfl
  · rfl
  · exact ho
theorem All2.of_vals {l : List Value} (ho : ∀ v ∈ l, v.oneCell' = true) : All2 (CR U ρ h w) (l.map vC) l := ⟨by simp, fun i a b ha hb => by
  rw [List.getElem?_map, hb] at ha; obtain rfl := Option.some.inj ha
  exact CR.of_val (ho b (List.mem_of_getElem? hb))⟩
theorem TOk.zero {P : Program} {t : Nat} {i : TI} {k : K} (ht : TOk P t i) (hk : i.k = some k) : KS U w k k.zero i.z := by
  obtain ⟨h1, h2⟩ := ht.kind k hk; have h3 := (fit_KS (U := U) (ρ := fun _ => undef) (h := []) (w := w) k h2 (All2.of_vals ht.ones))
  have hl := h3.2.left_nil
  have : i.z.take k.sz = i.z := by
    have := List.take_append_drop k.sz i.z; rw [hl, List.append_nil] at this; exact this
  rw [← this]; exact h3.1
def ValOk (P : Program) (U : Nat → Prop) (ρ : Nat → Value) (h : List Blk) (w : World) (e : Sem Value) (s : S) (h1 : List Blk) : Prop :=
  ∃ v w1 U1 ρ1, e.run P w = .ok v w1 ∧ Go1 U ρ h w U1 ρ1 h1 w1 ∧ SR U1 ρ1 h1 w1 s v
theorem ValOk.pure {P : Program} {e : Sem Value} {s : S} {v : Value} (hr : HR U ρ h w) (he : e.run P w = .ok v w) (hs : SR U ρ h w s v) : ValOk P U ρ h w e s h :=
  ⟨v, w, U, ρ, he, Go1.refl hr, hs⟩
def UnitOk (P : Program) (U : Nat → Prop) (ρ : Nat → Value) (h : List Blk) (w : World) (e : Sem Unit) (h1 : List Blk) : Prop :=
  ∃ w1 U1 ρ1, e.run P w = .ok () w1 ∧ Go1 U ρ h w U1 ρ1 h1 w1
def OpOk (P : Program) (U : Nat → Prop) (ρ : Nat → Value) (h : List Blk) (w : World) (e : Sem Next) (s : S) (h1 : List Blk) : Prop :=
  ∃ v w1 U1 ρ1, (e.run P w = .ok (.value v) w1 ∨ (e.run P w = .ok .skip w1 ∧ v = undef)) ∧ Go1 U ρ h w U1 ρ1 h1 w1 ∧ SR U1 ρ1 h1 w1 s v
theorem ValOk.op {P : Program} {e : Sem Value} {s : S} {h1 : List Blk} (hv : ValOk P U ρ h w e s h1) : OpOk P U ρ h w (do Pure.pure (Next.value (← e))) s h1 := by
  obtain ⟨v, w1, U1, ρ1, he, hg, hs⟩ := hv; exact ⟨v, w1, U1, ρ1, .inl (by simp [he]), hg, hs⟩
theorem UnitOk.op {P : Program} {e : Sem Unit} {h1 : List Blk} (hv : UnitOk P U ρ h w e h1) : OpOk P U ρ h w (do e; Pure.pure Next.skip) .undef h1 := by
  obtain ⟨w1, U1, ρ1, he, hg⟩ := hv; exact ⟨undef, w1, U1, ρ1, .inr ⟨by simp [he], rfl⟩, hg, trivial⟩
def binR (op : BinOp) (x y : S) : Option (S × Prop) :=
  match x, y with
  | .one (.int k a), .one (.int k' b) =>
    match op with
    | .shl => some (.one (.int k (k.wrap (a * 2 ^ min b.toNat k.bits))), 0 ≤ b)
    | .shr => some (.one (.int k (a.fdiv (2 ^ min b.toNat k.bits))), 0 ≤ b)
    | op => if k = k' then match op with
      | .add => some (.one (.int k (k.wrap (a + b))), True)
      | .sub => some (.one (.int k (k.wrap (a - b))), True)
      | .mul => some (.one (.int k (k.wrap (a * b))), True)
      | .quo => some (.one (.int k (k.wrap (a.tdiv b))), b ≠ 0)
      | .rem => some (.one (.int k (a.tmod b)), b ≠ 0)
      | .and => some (.one (.int k (k.wrap (BitVec.ofInt k.bits a &&& BitVec.ofInt k.bits b).toNat)), True)
      | .or => some (.one (.int k (k.wrap (BitVec.ofInt k.bits a ||| BitVec.ofInt k.bits b).toNat)), True)
      | .xor => some (.one (.int k (k.wrap (BitVec.ofInt k.bits a ^^^ BitVec.ofInt k.bits b).toNat)), True)
      | .andNot => some (.one (.int k (k.wrap (BitVec.ofInt k.bits a &&& ~~~ BitVec.ofInt k.bits b).toNat)), True)
      | .eql => some (.one (.bool (a == b)), True)
      | .neq => some (.one (.bool (a != b)), True)
      | .lss => some (.one (.bool (decide (a < b))), True)
      | .leq => some (.one (.bool (decide (a ≤ b))), True)
      | .gtr => some (.one (.bool (decide (a > b))), True)
      | .geq => some (.one (.bool (decide (a ≥ b))), True)
      | _ => none else none
  | .one (.str a), .one (.str b) =>
    match op with
    | .add => some (.one (.str (a ++ b)), a.size + b.size ≤ 9223372036854775807)
    | .eql => some (.one (.bool (a.toList == b.toList)), True)
    | .neq => some (.one (.bool (!(a.toList == b.toList))), True)
    | .lss => some (.one (.bool (Op.bytesLess a.toList b.toList)), True)
    | .leq => some (.one (.bool (Op.bytesLess a.toList b.toList || a.toList == b.toList)), True)
    | .gtr => some (.one (.bool (!(Op.bytesLess a.toList b.toList || a.toList == b.toList))), True)
    | .geq => some (.one (.bool (!(Op.bytesLess a.toList b.toList))), True)
    | _ => none
  | _, _ => none
theorem binR_ok {P : Program} {op : BinOp} {x y s : S} {p : Prop} {a b : Value} (hr : binR op x y = some (s, p)) (hp : p) (hx : SR U ρ h w x a) (hy : SR U ρ h w y b) (t : TypeId) (ox oy : Operand) :
    ∃ v, (do eqGuard op t ox oy a b; Go.binOp op t a b : Sem Value).run P w = .ok v w ∧ SR U ρ h w s v := by
  unfold binR at hr; split at hr
  · rename_i k a' k' b'
    obtain rfl : a = .int k a' := hx; obtain rfl : b = .int k' b' := hy
    cases op <;> simp only [] at hr
    case shl =>
      obtain ⟨rfl, rfl⟩ := (Prod.mk.injEq ..).mp (Option.some.inj hr); refine ⟨_, ?_, rfl⟩; simp [eqGuard, Go.binOp, Op.shift, Int.not_lt.2 hp]
    case shr =>
      obtain ⟨rfl, rfl⟩ := (Prod.mk.injEq ..).mp (Option.some.inj hr); refine ⟨_, ?_, rfl⟩; simp [eqGuard, Go.binOp, Op.shift, Int.not_lt.2 hp]
    all_goals (split at hr <;> try (cases hr; done))
    all_goals (rename_i hkk; subst hkk; obtain ⟨rfl, rfl⟩ := (Prod.mk.injEq ..).mp (Option.some.inj hr))
    all_goals (refine ⟨_, ?_, rfl⟩)
    all_goals (first | (simp [eqGuard, Go.binOp, Op.intArith, Op.intCmp, Op.intBits]; done) | (have hp' : b' ≠ 0 := hp; simp [eqGuard, Go.binOp, Op.intDiv, hp']; done))
  · rename_i a' b'
    obtain rfl : a = .string a' := hx; obtain rfl : b = .string b' := hy
    cases op <;> simp only [] at hr <;> try (cases hr; done)
    all_goals (obtain ⟨rfl, rfl⟩ := (Prod.mk.injEq ..).mp (Option.some.inj hr))
    all_goals (refine ⟨_, ?_, rfl⟩)
    all_goals (first | (simp [eqGuard, Go.binOp, Op.stringOp]; done) | (simp [eqGuard, Go.binOp]; exact run_string_add_sum _ _ _ hp))
  · cases hr
def eqR (tb : Tb) (op : BinOp) (t : Nat) (a b : List C) : Option Bool := match Tb.at tb t, op with
  | some i, .eql => i.q a b
  | some i, .neq => (i.q a b).map fun r => !r
  | _, _ => none
theorem eqR_ok {P : Program} {tb : Tb} {op : BinOp} {t : Nat} {a b : List C} {r : Bool} {x y : Value} (ok : TbOk P tb) (hr : eqR tb op t a b = some r) (hx : SR U ρ h w (.agg a) x) (hy : SR U ρ h w (.agg b) y) (ox oy : Operand) :
    (do eqGuard op t ox oy x y; Go.binOp op t x y : Sem Value).run P w = .ok (.bool r) w := by
  obtain ⟨xs, rfl, ha⟩ := hx; obtain ⟨ys, rfl, hb⟩ := hy; unfold eqR at hr; split at hr <;> try (cases hr; done)
  · rename_i i hi
    obtain ⟨h1, h2⟩ := (ok.at hi).eqv hr; have h3 := h2 ha hb; rw [Array.toArray_toList, Array.toArray_toList] at h3; simp [eqGuard, Go.binOp, program, h1, h3, Sem.run]
  · rename_i i hi
    obtain ⟨r', hr', rfl⟩ := Option.map_eq_some_iff.1 hr; obtain ⟨h1, h2⟩ := (ok.at hi).eqv hr'; have h3 := h2 ha hb; rw [Array.toArray_toList, Array.toArray_toList] at h3; simp [eqGuard, Go.binOp, program, h1, h3, Sem.run]
end
end Go.Den
end
section
-- the texts that this claim needs, out of this session's and its print's (wip/shrink.py)
namespace Go.Den
open Go Go.RowKit
theorem RowAt.of_owns {α : Type} {R : α → List Value → Prop} {w : World} {base n size : Nat} {e : TypeId} {v : Value} {ps : List α} {cs : List Value} (h : w.ownsRow base e size v n cs) (hR : Lie R size ps cs) (hn : ps.length = n) :
    ∃ A c, v = .slice A n c ∧ n ≤ c ∧ RowAt R size w A n ps := by
  rcases h.2 with ⟨rfl, rfl⟩ | ⟨g, cap, cur, rfl, hb, hg, hc, hm, hcs, ht⟩
  · exact ⟨none, 0, rfl, Nat.le_refl _, hn, by omega, fun hp => absurd hp (by omega)⟩
  · have hm' : n ≤ 9223372036854775807 := by simp only [maxLen] at hm; omega
    refine ⟨_, cap, rfl, hc, hn, hm', fun _ => ⟨_, rfl, fun j p hj => ⟨(cs.drop (j * size)).take size, ?_, hR.2 j p hj, fun i u hu => ?_⟩⟩⟩
    · have hjl := (List.getElem?_eq_some_iff.1 hj).1; have h1 : j * size + size ≤ cs.length := by rw [hR.1, ← Nat.succ_mul]; exact Nat.mul_le_mul_right _ hjl
      rw [List.length_take, List.length_drop]; omega
    · refine h.cells (g := g) rfl _ u ?_; rw [List.getElem?_take] at hu; split at hu
      · rw [List.getElem?_drop] at hu; exact hu
      · cases hu
theorem KS.of_owns {U U1 : Nat → Prop} {w : World} {e : Nat} {k : K} {v : Value} {xs : List k.T} {cs : List Value} (h : w.ownsRow 0 e k.sz v xs.length cs) (hR : Lie (KS U w k) k.sz xs cs) (hu : ∀ b, b < w.heap.size → U1 b → U b) (hn : ∀ g, v.ownBlock = some g → ¬ U1 g) : KS U1 w (.row e k) xs [v] := by
  intro w' hw; have h' : w'.ownsRow 0 e k.sz v xs.length cs := ownsRow_move h fun g hg => hw.block g (h.lt g hg).2 (hn g hg); have hR' : Lie (KR w' k) k.sz xs cs := hR.imp fun x c hc => hc w' (hw.mono hu); obtain ⟨A, c, rfl, hl, hr⟩ := RowAt.of_owns h' hR' rfl; exact ⟨A, c, rfl, hl, hr⟩
section
variable {P : Program} {U U1 : Nat → Prop} {ρ ρ1 : Nat → Value} {h h1 : List Blk} {w w1 : World}
theorem Go1.freeze (hr : HR U ρ h w) {id e : Nat} {k : K} {xs : List k.T} (hid : h[id]? = some (.row e k xs)) :
    Go1 U ρ h w (fun x => U x ∧ place ρ h id ≠ some x) ρ (h.set id (.frz e k xs)) w := by
  have hl : id < h.length := (List.getElem?_eq_some_iff.1 hid).1; refine Go1.set hr hid (Agree.refl _ _) (fun k' hk => ?_) (fun hx => ?_) (fun g hg => ?_) _ (fun x _ hx => hx.1) (fun x _ hx => ?_) (fun g hg => ?_) (fun tr ex => ?_)
  · simp [rowK, hl] at hk; simp only [rowK, hid]; rw [hk]
  · simp [isBox, hl] at hx
  · simp [place, hl] at hg
  · by_cases hp : place ρ h id = some x
    · exact .inr hp
    · exact .inl ⟨hx, hp⟩
  · simp [place, hl] at hg
  · obtain ⟨cs, h1, h2⟩ := hr.blk id _ hid; exact KS.of_owns h1 h2 (fun b _ hb => hb.1) (fun g hg hb => hb.2 (by simp [place, hid, hg]))
def snap : List C → List Blk → Option (List C × List Blk)
  | [], h => some ([], h)
  | .own id :: r, h => match h[id]? with
    | some (.row e k xs) => (snap r (h.set id (.frz e k xs))).map fun p => (.row e k xs :: p.1, p.2)
    | some (.frz e k xs) => (snap r h).map fun p => (.row e k xs :: p.1, p.2)
    | _ => none
  | c :: r, h => (snap r h).map fun p => (c :: p.1, p.2)
theorem snap_ok : ∀ (l : List C) {U : Nat → Prop} {h : List Blk} {p : List C × List Blk} {us : List Value}, snap l h = some p → HR U ρ h w → All2 (CR U ρ h w) l us → ∃ U1, Go1 U ρ h w U1 ρ p.2 w ∧ All2 (CR U1 ρ p.2 w) p.1 us
  | [], U, h, p, us, hs, hr, ha => by
    obtain rfl := Option.some.inj hs
    exact ⟨U, Go1.refl hr, ha⟩
  | c :: r, U, h, p, us, hs, hr, ha => by
    obtain ⟨u, us', rfl, hc, ht⟩ := ha.left_cons
    have plain : ((snap r h).map fun p => (c :: p.1, p.2)) = some p → ∃ U1, Go1 U ρ h w U1 ρ p.2 w ∧ All2 (CR U1 ρ p.2 w) p.1 (u :: us') := fun hs => by
      cases hq : snap r h with
      | none => rw [hq] at hs; cases hs
      | some q =>
        rw [hq] at hs; obtain rfl := Option.some.inj hs; obtain ⟨U1, g, a2⟩ := snap_ok r hq hr ht; exact ⟨U1, g, All2.cons (hc.tr (g.tr hr) g.ext) a2⟩
    cases c with
    | own id =>
      unfold snap at hs; split at hs
      · rename_i e k xs hid
        have g0 := Go1.freeze hr hid
        cases hq : snap r (h.set id (.frz e k xs)) with
        | none => rw [hq] at hs; cases hs
        | some q =>
          rw [hq] at hs; obtain rfl := Option.some.inj hs; obtain ⟨U1, g, a2⟩ := snap_ok r hq g0.hr (ht.imp fun _ _ x => x.tr (g0.tr hr) g0.ext); refine ⟨U1, g0.trans g, All2.cons ?_ a2⟩; have hu : u = ρ id := hc.2.2 k (by simp [rowK, hid]); have hb := g0.hr.blk id (.frz e k xs) (get_set (List.getElem?_eq_some_iff.1 hid).1); show KS U1 w (.row e k) xs [u]; rw [hu]; exact KS.tr (k := .row e k) hb (g.tr g0.hr)
      · rename_i e k xs hid
        cases hq : snap r h with
        | none => rw [hq] at hs; cases hs
        | some q =>
          rw [hq] at hs; obtain rfl := Option.some.inj hs; obtain ⟨U1, g, a2⟩ := snap_ok r hq hr ht; refine ⟨U1, g, All2.cons ?_ a2⟩; have hu : u = ρ id := hc.2.2 k (by simp [rowK, hid]); show KS U1 w (.row e k) xs [u]; rw [hu]; exact KS.tr (k := .row e k) (hr.blk id _ hid) (g.tr hr)
      · cases hs
    | _ => exact plain hs
def cellsOf : S → Option (List C)
  | .one c => some [c]
  | .agg l => some l
  | _ => none
theorem cells_one {v : Value} (h : v.oneCell' = true) : v.cells.toList = [v] := by
  cases v <;> first | rfl | cases h
theorem cellsOf_ok {s : S} {l : List C} {v : Value} (hs : cellsOf s = some l) (hr : SR U ρ h w s v) : All2 (CR U ρ h w) l v.cells.toList := by
  unfold cellsOf at hs; split at hs
  · obtain rfl := Option.some.inj hs; rw [cells_one (CR.one hr)]; exact All2.cons hr All2.nil
  · obtain rfl := Option.some.inj hs; obtain ⟨cs, rfl, ha⟩ := hr; exact ha
  · cases hs
def mkS (i : TI) (l : List C) : S := bif i.d.agg then .agg l else match l with
  | [c] => .one c
  | _ => .undef
theorem box_ok {t : Nat} {l : List C} {v : Value} (hr : HR U ρ h w) (hl : All2 (CR U ρ h w) l v.cells.toList) : ValOk P U ρ h w (Instr.box t v) (.one (.ptr h.length 0)) (h ++ [.box t l]) := by
  have hb : (w.alloc (.cells v.cells t)).heap[w.heap.size]? = some (.cells v.cells t (0, 0)) := heap_alloc_new w _; have ag : Agree (fun _ => False) w (w.alloc (.cells v.cells t)) := ⟨rfl, rfl, rfl, by simp, fun b hb _ => heap_alloc_old w _ hb⟩
  refine ⟨.pointer (some ⟨w.heap.size, 0, none⟩), w.alloc (.cells v.cells t), _, _, ?_, Go1.push (v := .pointer (some ⟨w.heap.size, 0, none⟩)) (g := some w.heap.size) hr ag ?_ (fun x hx => ?_) (fun U1 tr hu => ?_), ?_⟩
  · simp [Instr.box, newVar, newRow]
  · simp [place, upd_at, ptrBlk]
  · obtain rfl := Option.some.inj hx; simp
  · exact ⟨_, _, upd_at _ _ _, hb, hl.imp fun _ _ hc => hc.tr tr (Ext.push _ _ _ _)⟩
  · exact ⟨rfl, by simp, fun _ => ⟨_, upd_at _ _ _, rfl⟩⟩
end
end Go.Den
end
section
-- the texts that this claim needs, out of this session's and its print's (wip/shrink.py)
namespace Go.Den
open Go Go.RowKit
theorem seg_get {α : Type} (cs vs : List α) (o p : Nat) (h : o + vs.length ≤ cs.length) : (cs.take o ++ vs ++ cs.drop (o + vs.length))[p]? = if p < o then cs[p]? else if p < o + vs.length then vs[p - o]? else cs[p]? := by
  have ho : (cs.take o).length = o := by simp; omega
  by_cases h1 : p < o
  · rw [if_pos h1, List.append_assoc, List.getElem?_append_left (by omega), List.getElem?_take, if_pos h1]
  · rw [if_neg h1]
    by_cases h2 : p < o + vs.length
    · rw [if_pos h2, List.append_assoc, List.getElem?_append_right (by omega), ho, List.getElem?_append_left (by omega)]
    · rw [if_neg h2, List.getElem?_append_right (by simp; omega), List.getElem?_drop]; congr 1; simp; omega
theorem place_box {ρ : Nat → Value} {h : List Blk} {id t : Nat} {l : List C} (hid : h[id]? = some (.box t l)) : place ρ h id = ptrBlk (ρ id) := by simp only [place, hid]
theorem place_row {ρ : Nat → Value} {h : List Blk} {id e : Nat} {k : K} {xs : List k.T} (hid : h[id]? = some (.row e k xs)) : place ρ h id = (ρ id).ownBlock := by simp [place, hid]
theorem rowK_row {h : List Blk} {id e : Nat} {k : K} {xs : List k.T} (hid : h[id]? = some (.row e k xs)) : rowK h id = some k := by simp [rowK, hid]
theorem seg_length {α : Type} (cs vs : List α) (o : Nat) (h : o + vs.length ≤ cs.length) : (cs.take o ++ vs ++ cs.drop (o + vs.length)).length = cs.length := by
  rw [List.length_append, List.length_append, List.length_take, List.length_drop]; omega
section
variable {P : Program} {U U1 : Nat → Prop} {ρ ρ1 : Nat → Value} {h h1 : List Blk} {w w1 : World}
def addrCells (h : List Blk) : S → Option (List C × Prop)
  | .one (.ptr id off) => match h[id]? with
    | some (.box _ l) => some (l.drop off, True)
    | _ => none
  | .one (.at_ k x off) => some ((k.flat x).drop off, True)
  | .one (.elt id i off) => match h[id]? with
    | some (.row _ k xs) => some ((k.flat (xs.getD i k.zero)).drop off, i < xs.length)
    | _ => none
  | _ => none
theorem elem_of_lie {k : K} {xs : List k.T} {cs : List Value} {i : Nat} (hl : Lie (KS U w k) k.sz xs cs) (hi : i < xs.length) : KS U w k (xs.getD i k.zero) ((cs.drop (i * k.sz)).take k.sz) := by
  refine hl.2 i _ ?_; rw [List.getD_eq_getElem?_getD, List.getElem?_eq_getElem hi]; rfl
theorem addrCells_ok {s : S} {l : List C} {p : Prop} {v : Value} (hc : addrCells h s = some (l, p)) (hp : p) (hr : HR U ρ h w) (hs : SR U ρ h w s v) :
    ∃ ad us, v = .pointer (some ad) ∧ All2 (CR U ρ h w) l us ∧ ∀ j u, us[j]? = some u → w.cell? (ad.add j) = some u := by
  unfold addrCells at hc; split at hc
  · rename_i id off
    split at hc
    · rename_i t l' hid
      obtain ⟨rfl, rfl⟩ := (Prod.mk.injEq ..).mp (Option.some.inj hc); obtain ⟨g, arr, h1, h2, h3⟩ := hr.blk id _ hid; obtain ⟨g', hg', rfl⟩ := hs.2.2 (by simp [isBox, hid]); rw [h1] at hg'; injection hg' with hg'
      injection hg' with hg'
      injection hg' with hg'
      subst hg'; refine ⟨_, _, rfl, h3.drop off, fun j u hu => ?_⟩; rw [Addr.add_lit, cell_of_row w g (off + j) arr t (0, 0) h2]; rw [List.getElem?_drop] at hu; simpa using hu
    · cases hc
  · rename_i k x off
    obtain ⟨rfl, rfl⟩ := (Prod.mk.injEq ..).mp (Option.some.inj hc); obtain ⟨ad, cs, rfl, hk, hcell⟩ := hs; refine ⟨ad, cs.drop off, rfl, (flat_CR hk).drop off, fun j u hu => hcell j u (by rwa [List.getElem?_drop] at hu) w (Agree.refl _ _)⟩
  · rename_i id i off
    split at hc
    · rename_i e k xs hid
      obtain ⟨rfl, rfl⟩ := (Prod.mk.injEq ..).mp (Option.some.inj hc); obtain ⟨cs, h1, h2⟩ := hr.blk id _ hid; obtain ⟨g, n, c, hg, rfl⟩ := hs.2.2 k (by simp [rowK, hid]); refine ⟨_, _, rfl, (flat_CR (elem_of_lie h2 hp)).drop off, fun j u hu => ?_⟩; rw [List.getElem?_drop, List.getElem?_take] at hu; split at hu
      · rw [List.getElem?_drop] at hu; have := h1.cells (g := g) (by rw [hg]; rfl) _ u hu; rw [Addr.add_lit] at this ⊢; rw [← this]; congr 2; omega
      · cases hu
    · cases hc
  · cases hc
theorem run_load {t : Nat} {i : TI} {ad : Addr} {us : List Value} (ht : TOk P t i) (hl : us.length = i.sz) (h1 : i.d.agg = false → i.sz = 1) (hc : ∀ j u, us[j]? = some u → w.cell? (ad.add j) = some u) :
    (Instr.loadAt t (.pointer (some ad))).run P w = .ok (if i.d.agg = true then .agg us.toArray else us.getD 0 undef) w := by
  simp only [Instr.loadAt, Instr.sureAddr, Sem.run_bind, Sem.run_pure, Result.andThen_ok, loadVar, ht.isAgg w]
  cases hd : i.d.agg with
  | true =>
    have hll := run_loadCells_list (P := P) w ad us hc
    simp [ht.sizeOf w, ← hl, hll]
  | false =>
    have hz := h1 hd; rw [hz] at hl
    obtain ⟨u, rfl⟩ : ∃ u, us = [u] := by
      cases us with
      | nil => cases hl
      | cons u us => cases us with
        | nil => exact ⟨u, rfl⟩
        | cons _ _ => cases hl
    have := hc 0 u rfl; rw [Addr.add_zero'] at this; simp [load, Sem.run, this]
def loadR (tb : Tb) (t : Nat) (s : S) (h : List Blk) : Option (S × List Blk × Prop) :=
  match Tb.at tb t, addrCells h s with
  | some i, some (l, p) => match i.d.agg with
    | true => match nb (l.take i.sz).length i.sz with
      | true => match snap (l.take i.sz) h with
        | some q => some (.agg q.1, q.2, p)
        | none => none
      | false => none
    | false => match nb i.sz 1, l with
      | true, c :: _ => some (.one c, h, p)
      | _, _ => none
  | _, _ => none
theorem loadR_ok' {tb : Tb} {t : Nat} {s s1 : S} {p : Prop} {v : Value} (ok : TbOk P tb) (hl : loadR tb t s h = some (s1, h1, p)) (hp : p) (hr : HR U ρ h w) (hs : SR U ρ h w s v) : ∃ v1 U1, (Instr.loadAt t v).run P w = .ok v1 w ∧ Go1 U ρ h w U1 ρ h1 w ∧ SR U1 ρ h1 w s1 v1 := by
  unfold loadR at hl; split at hl
  · rename_i i l p' hi hc
    have ht := ok.at hi; split at hl
    · rename_i hd
      split at hl
      · rename_i hlen
        split at hl
        · rename_i q hq
          obtain ⟨rfl, h2⟩ := (Prod.mk.injEq ..).mp (Option.some.inj hl); obtain ⟨rfl, rfl⟩ := (Prod.mk.injEq ..).mp h2; obtain ⟨ad, us, rfl, ha, hcell⟩ := addrCells_ok hc hp hr hs; obtain ⟨U1, g, ha2⟩ := snap_ok _ hq hr (ha.take i.sz); have hlu : (us.take i.sz).length = i.sz := by rw [← (ha.take i.sz).1]; exact nb_eq hlen
          refine ⟨_, U1, run_load ht hlu (fun h => by rw [h] at hd; cases hd) (fun j u hu => ?_), g, ?_⟩
          · rw [List.getElem?_take] at hu; split at hu
            · exact hcell j u hu
            · cases hu
          · rw [if_pos hd]; exact ⟨_, rfl, ha2⟩
        · cases hl
      · cases hl
    · rename_i hd
      split at hl
      · rename_i c r hz
        obtain ⟨rfl, h2⟩ := (Prod.mk.injEq ..).mp (Option.some.inj hl); obtain ⟨rfl, rfl⟩ := (Prod.mk.injEq ..).mp h2; obtain ⟨ad, us, rfl, ha, hcell⟩ := addrCells_ok hc hp hr hs; have hz1 := nb_eq hz; obtain ⟨u, us', rfl, hcu, _⟩ := ha.left_cons; refine ⟨_, U, run_load (us := [u]) ht (by rw [hz1]; rfl) (fun _ => hz1) (fun j x hx => ?_), Go1.refl hr, ?_⟩
        · cases j with
          | zero => exact hcell 0 x (by simpa using hx)
          | succ j => simp at hx
        · rw [if_neg (by rw [hd]; decide)]; exact hcu
      · cases hl
  · cases hl
theorem loadR_ok {tb : Tb} {t : Nat} {s s1 : S} {p : Prop} {v : Value} (ok : TbOk P tb) (hl : loadR tb t s h = some (s1, h1, p)) (hp : p) (hr : HR U ρ h w) (hs : SR U ρ h w s v) : ValOk P U ρ h w (Instr.loadAt t v) s1 h1 := by
  obtain ⟨v1, U1, h1, h2, h3⟩ := loadR_ok' (P := P) ok hl hp hr hs; exact ⟨v1, w, U1, ρ, h1, h2, h3⟩
theorem run_store {t : Nat} {i : TI} {g o : Nat} {ty : TypeId} {arr : Array Value} {v : Value} (ht : TOk P t i) (hl : v.cells.toList.length = i.sz) (hg : w.heap[g]? = some (.cells arr ty (0, 0))) (hfit : o + v.cells.toList.length ≤ arr.size) (h1 : ∀ u ∈ v.cells.toList, u.oneCell' = true) :
    (Instr.storeAt t (.pointer (some ⟨g, o, none⟩)) v).run P w = .ok () (w.setRow g (arr.toList.take o ++ v.cells.toList ++ arr.toList.drop (o + v.cells.toList.length)).toArray) := by
  have hs := run_storeCells_at P g o ty v.cells.toList 0 arr w hg (by simpa using hfit) h1; simp only [Nat.add_zero] at hs; have hsz : ¬ (v.cells.size ≠ i.sz) := by simp at hl; simpa using hl
  simp [Instr.storeAt, Instr.sureAddr, storeVar, ht.sizeOf w, hsz, hs]
def storeR (tb : Tb) (t : Nat) (s x : S) (h : List Blk) : Option (List Blk × Prop) :=
  match Tb.at tb t, cellsOf x with
  | some i, some cs => match nb cs.length i.sz with
    | true => match s with
      | .one (.ptr id off) => match h[id]? with
        | some (.box ty l) => match nle (off + cs.length) l.length with
          | true => some (h.set id (.box ty (l.take off ++ cs ++ l.drop (off + cs.length))), True)
          | false => none
        | _ => none
      | .one (.elt id j off) => match snap cs h with
        | some (cs1, h1) => match h1[id]? with
          | some (.row e k xs) => match nle (off + cs1.length) k.sz, k.fit ((k.flat (xs.getD j k.zero)).take off ++ cs1 ++ (k.flat (xs.getD j k.zero)).drop (off + cs1.length)) with
            | true, some (y, []) => some (h1.set id (.row e k (xs.set j y)), j < xs.length)
            | _, _ => none
          | _ => none
        | none => none
      | _ => none
    | false => none
  | _, _ => none
theorem setRow_agree {g : Nat} (cs : Array Value) : Agree (fun x => x = g) w (w.setRow g cs) :=
  ⟨rfl, rfl, rfl, by simp, fun b _ hn => setRow_other w g b cs hn⟩
theorem All2.ones {l : List C} {us : List Value} (ha : All2 (CR U ρ h w) l us) : ∀ u ∈ us, u.oneCell' = true := fun u hu => by
  obtain ⟨i, hi⟩ := List.getElem?_of_mem hu; have hl : i < l.length := by rw [ha.1]; exact (List.getElem?_eq_some_iff.1 hi).1
  exact CR.one (ha.2 i l[i] u (List.getElem?_eq_getElem hl) hi)
theorem storeR_ok {tb : Tb} {t : Nat} {s x : S} {p : Prop} {v vx : Value} (ok : TbOk P tb) (hl : storeR tb t s x h = some (h1, p)) (hp : p) (hr : HR U ρ h w) (hs : SR U ρ h w s v) (hx : SR U ρ h w x vx) : UnitOk P U ρ h w (Instr.storeAt t v vx) h1 := by
  unfold storeR at hl; split at hl
  · rename_i i cs hi hcs
    have ht := ok.at hi; have ha := cellsOf_ok hcs hx; split at hl
    · rename_i hlen
      have hlv : vx.cells.toList.length = i.sz := by rw [← ha.1]; exact nb_eq hlen
      split at hl
      · rename_i id off
        split at hl
        · rename_i ty l hid
          split at hl
          · rename_i hble
            obtain ⟨rfl, rfl⟩ := (Prod.mk.injEq ..).mp (Option.some.inj hl); have hle : off + cs.length ≤ l.length := nle_le hble; obtain ⟨g, arr, e1, e2, e3⟩ := hr.blk id _ hid; obtain ⟨g', hg', rfl⟩ := hs.2.2 (by simp [isBox, hid]); rw [e1] at hg'; injection hg' with hg'
            injection hg' with hg'
            injection hg' with hg'
            subst hg'; have hpl : place ρ h id = some g := by simp [place, hid, e1, ptrBlk]
            have hrun := run_store (P := P) ht hlv e2 (by rw [← ha.1, ← Array.length_toList, ← e3.1]; exact hle) (All2.ones ha); refine ⟨_, _, _, hrun, Go1.set hr hid ((setRow_agree _).mono (fun x _ hx => by subst hx; exact hpl)) (fun k hk => ?_) (fun _ => by simp [isBox, hid]) (fun g1 hg1 => ?_) U (fun _ _ hu => hu) (fun _ _ hu => .inl hu) (fun g1 hg1 => ?_) (fun tr ex => ?_)⟩
            · simp [rowK, (List.getElem?_eq_some_iff.1 hid).1] at hk
            · rw [place_box (get_set (List.getElem?_eq_some_iff.1 hid).1)] at hg1; rw [place_box hid]; exact hg1
            · rw [place_box (get_set (List.getElem?_eq_some_iff.1 hid).1), ← place_box hid] at hg1; exact (hr.inU id g1 hg1).1
            · refine ⟨g, _, e1, setRow_heap w g arr _ ty _ e2, ?_⟩; show All2 _ _ _; rw [← ha.1]
              have q1 : All2 (CR U ρ (h.set id (.box ty (l.take off ++ cs ++ l.drop (off + cs.length)))) (w.setRow g (arr.toList.take off ++ vx.cells.toList ++ arr.toList.drop (off + cs.length)).toArray)) (l.take off ++ cs ++ l.drop (off + cs.length)) (arr.toList.take off ++ vx.cells.toList ++ arr.toList.drop (off + cs.length)) :=
                (((e3.take off).append ha).append (e3.drop _)).imp fun _ _ hc => hc.tr (by rw [← ha.1] at tr; exact tr) ex
              exact q1
          · cases hl
        · cases hl
      · rename_i id j off
        split at hl
        · rename_i cs1 h2 hsn
          obtain ⟨U2, g2, ha2⟩ := snap_ok _ hsn hr ha; split at hl
          · rename_i e k xs hid
            split at hl
            · rename_i y hble hfit
              obtain ⟨rfl, rfl⟩ := (Prod.mk.injEq ..).mp (Option.some.inj hl); have hle : off + cs1.length ≤ k.sz := nle_le hble; have hr2 := g2.hr; obtain ⟨us, e1, e2⟩ := hr2.blk id _ hid; have hs2 := SR.tr (g2.tr hr) g2.ext hs; obtain ⟨g, n, c, hg, rfl⟩ := hs2.2.2 k (by simp [rowK, hid]); have hlv2 : vx.cells.toList.length = cs1.length := ha2.1.symm; have hj : j * k.sz + k.sz ≤ us.length := by rw [e2.1, ← Nat.succ_mul]; exact Nat.mul_le_mul_right _ hp
              rcases e1.2 with ⟨hnil, _⟩ | ⟨g', cap, cur, hv, hb0, hheap, hc, hm, hcs, htake⟩
              · rw [hg] at hnil; cases hnil
              · rw [hg] at hv; injection hv with hv1 hv2 hv3
                injection hv1 with hv1
                injection hv1 with hv1
                subst hv1 hv2 hv3; have hus : us.length = xs.length * k.sz := e2.1; have hcur : us.length ≤ cur.size := by rw [← htake]; simp; omega
                have hcur2 : us.length ≤ cur.toList.length := by rw [Array.length_toList]; exact hcur
                have hpl : place ρ h2 id = some g := by simp [place, hid, hg, Value.ownBlock]
                have hrun := run_store (P := P) (o := j * k.sz + off) ht hlv hheap (by omega) (All2.ones ha); refine ⟨_, U2, ρ, hrun, g2.trans (Go1.set hr2 hid ((setRow_agree _).mono (fun x _ hx => by subst hx; exact hpl)) (fun k' hk => ?_) (fun hx => ?_) (fun g1 hg1 => ?_) U2 (fun _ _ hu => hu) (fun _ _ hu => .inl hu) (fun g1 hg1 => ?_) (fun tr ex => ?_))⟩
                · rw [rowK_row (get_set (List.getElem?_eq_some_iff.1 hid).1)] at hk; rw [rowK_row hid]; exact hk
                · simp [isBox, (List.getElem?_eq_some_iff.1 hid).1] at hx
                · rw [place_row (get_set (List.getElem?_eq_some_iff.1 hid).1)] at hg1; rw [place_row hid]; exact hg1
                · rw [place_row (get_set (List.getElem?_eq_some_iff.1 hid).1), ← place_row hid] at hg1; exact (hr2.inU id g1 hg1).1
                · have hvl : (us.take (j * k.sz + off) ++ vx.cells.toList ++ us.drop (j * k.sz + off + vx.cells.toList.length)).length = us.length := seg_length _ _ _ (by omega); refine ⟨us.take (j * k.sz + off) ++ vx.cells.toList ++ us.drop (j * k.sz + off + vx.cells.toList.length), ?_, ?_⟩
                  · refine ⟨by rw [hvl, List.length_set]; exact e1.1, .inr ⟨g, c, _, ?_, hb0, setRow_heap w g cur _ e _ hheap, by rw [List.length_set]; exact hc, hm, ?_, ?_⟩⟩
                    · rw [List.length_set]; exact hg
                    · rw [List.size_toArray, seg_length _ _ _ (by omega), Array.length_toList]; exact hcs
                    · apply List.ext_getElem?; intro q; rw [List.length_set, List.getElem?_take, List.toList_toArray, seg_get cur.toList _ _ _ (by omega), seg_get us _ _ _ (by omega)]
                      have hq : ∀ (hq : q < xs.length * k.sz), us[q]? = cur.toList[q]? := fun hq => by
                        rw [← htake, List.getElem?_take, if_pos hq]
                      by_cases hq1 : q < xs.length * k.sz
                      · rw [if_pos hq1, hq hq1]
                      · rw [if_neg hq1]; rw [if_neg (by omega), if_neg (by omega)]; rw [List.getElem?_eq_none (by omega)]
                  · refine ⟨by rw [hvl, List.length_set]; exact hus, fun m q hm' => ?_⟩; rw [List.getElem?_set] at hm'
                    by_cases hjm : j = m
                    · subst hjm; rw [if_pos rfl, if_pos hp] at hm'; obtain rfl := Option.some.inj hm'
                      have hfl : All2 (CR U2 ρ (h2.set id (.row e k (xs.set j y))) _) ((k.flat (xs.getD j k.zero)).take off ++ cs1 ++ (k.flat (xs.getD j k.zero)).drop (off + cs1.length)) (((us.drop (j * k.sz)).take k.sz).take off ++ vx.cells.toList ++ ((us.drop (j * k.sz)).take k.sz).drop (off + cs1.length)) :=
                        (((flat_CR (elem_of_lie e2 hp)).take off).append ha2 |>.append ((flat_CR (elem_of_lie e2 hp)).drop _)).imp fun _ _ hc => hc.tr tr ex
                      have hks := (fit_KS k hfit hfl).1; have hlen3 : ((us.drop (j * k.sz)).take k.sz).length = k.sz := by rw [List.length_take, List.length_drop]; omega
                      have hlen2 : (((us.drop (j * k.sz)).take k.sz).take off ++ vx.cells.toList ++ ((us.drop (j * k.sz)).take k.sz).drop (off + cs1.length)).length = k.sz := by rw [← hlv2, seg_length _ _ _ (by omega)]; exact hlen3
                      rw [List.take_of_length_le (Nat.le_of_eq hlen2)] at hks
                      have heq : ((us.take (j * k.sz + off) ++ vx.cells.toList ++ us.drop (j * k.sz + off + vx.cells.toList.length)).drop (j * k.sz)).take k.sz = ((us.drop (j * k.sz)).take k.sz).take off ++ vx.cells.toList ++ ((us.drop (j * k.sz)).take k.sz).drop (off + cs1.length) := by
                        apply List.ext_getElem?; intro q; rw [← hlv2, List.getElem?_take, List.getElem?_drop, seg_get _ _ _ _ (by omega), seg_get _ _ _ _ (by omega)]; simp only [List.getElem?_take, List.getElem?_drop]
                        by_cases h1 : q < k.sz
                        · rw [if_pos h1]
                          by_cases h2 : q < off
                          · rw [if_pos (by omega), if_pos h2]; simp [h1]
                          · rw [if_neg (by omega), if_neg h2]
                            by_cases h3 : q < off + vx.cells.toList.length
                            · rw [if_pos (by omega), if_pos h3]; congr 1; omega
                            · rw [if_neg (by omega), if_neg h3]; simp [h1]
                        · rw [if_neg h1, if_neg (by omega), if_neg (by omega)]; simp [h1]
                      rw [heq]; exact hks
                    · rw [if_neg hjm] at hm'; have hml := (List.getElem?_eq_some_iff.1 hm').1; have h0 := (e2.2 m q hm').tr tr
                      have heq : ((us.take (j * k.sz + off) ++ vx.cells.toList ++ us.drop (j * k.sz + off + vx.cells.toList.length)).drop (m * k.sz)).take k.sz = (us.drop (m * k.sz)).take k.sz := by
                        apply List.ext_getElem?; intro q; rw [List.getElem?_take, List.getElem?_take, List.getElem?_drop, List.getElem?_drop, seg_get _ _ _ _ (by omega)]
                        by_cases h1 : q < k.sz
                        · rw [if_pos h1, if_pos h1]; rcases Nat.lt_or_gt_of_ne hjm with h2 | h2
                          · have : j * k.sz + k.sz ≤ m * k.sz := by rw [← Nat.succ_mul]; exact Nat.mul_le_mul_right _ h2
                            rw [if_neg (by omega), if_neg (by omega)]
                          · have : m * k.sz + k.sz ≤ j * k.sz := by rw [← Nat.succ_mul]; exact Nat.mul_le_mul_right _ h2
                            rw [if_pos (by omega)]
                        · rw [if_neg h1, if_neg h1]
                      rw [heq]; exact h0
            · cases hl
          · cases hl
        · cases hl
      · cases hl
    · cases hl
  · cases hl
end
end Go.Den
end
section
-- the texts that this claim needs, out of this session's and its print's (wip/shrink.py)
namespace Go.Den
open Go Go.RowKit
theorem add_add' (ad : Addr) (m n : Nat) : (ad.add m).add n = ad.add (m + n) := by
  unfold Addr.add
  by_cases hm : m = 0
  · subst hm; simp
  · by_cases hn : n = 0
    · subst hn; simp [hm]
    · simp [hm, hn, show m + n ≠ 0 by omega, Nat.add_assoc]
section
variable {P : Program} {U U1 : Nat → Prop} {ρ ρ1 : Nat → Value} {h h1 : List Blk} {w w1 : World}
def addOff : S → Nat → Option S
  | .one (.ptr id o), n => some (.one (.ptr id (o + n)))
  | .one (.at_ k x o), n => some (.one (.at_ k x (o + n)))
  | .one (.elt id i o), n => some (.one (.elt id i (o + n)))
  | _, _ => none
theorem addOff_ok {s s1 : S} {n : Nat} {v : Value} (hs : addOff s n = some s1) (hr : SR U ρ h w s v) (hv : ∃ ad, v = .pointer (some ad)) : ∃ ad, v = .pointer (some ad) ∧ SR U ρ h w s1 (.pointer (some (ad.add n))) := by
  unfold addOff at hs; split at hs
  · obtain rfl := Option.some.inj hs; obtain ⟨ad, rfl⟩ := hv; refine ⟨ad, rfl, rfl, hr.2.1, fun hb => ?_⟩; obtain ⟨g, e1, e2⟩ := hr.2.2 hb; injection e2 with e2
    injection e2 with e2
    subst e2; exact ⟨g, e1, by rw [Addr.add_lit]⟩
  · obtain rfl := Option.some.inj hs; obtain ⟨ad, cs, rfl, hk, hc⟩ := hr; refine ⟨ad, rfl, ad.add n, cs, rfl, hk, fun j u hu w' hw => ?_⟩; rw [add_add']; exact hc (n + j) u (by rwa [← Nat.add_assoc]) w' hw
  · obtain rfl := Option.some.inj hs; obtain ⟨ad, rfl⟩ := hv; refine ⟨ad, rfl, rfl, hr.2.1, fun k hk => ?_⟩; obtain ⟨g, m, c, e1, e2⟩ := hr.2.2 k hk; injection e2 with e2
    injection e2 with e2
    subst e2; exact ⟨g, m, c, e1, by rw [Addr.add_lit, Nat.add_assoc]⟩
  · cases hs
def isAddr (h : List Blk) : S → Bool
  | .one (.ptr id _) => isBox h id
  | .one (.at_ _ _ _) => true
  | .one (.elt id _ _) => (rowK h id).isSome
  | _ => false
theorem isAddr_ok {s : S} {v : Value} (ha : isAddr h s = true) (hr : SR U ρ h w s v) : ∃ ad, v = .pointer (some ad) := by
  unfold isAddr at ha; split at ha
  · obtain ⟨g, _, e⟩ := hr.2.2 ha; exact ⟨_, e⟩
  · obtain ⟨ad, cs, rfl, _⟩ := hr; exact ⟨ad, rfl⟩
  · obtain ⟨k, hk⟩ := Option.isSome_iff_exists.1 ha; obtain ⟨g, n, c, _, e⟩ := hr.2.2 k hk; exact ⟨_, e⟩
  · cases ha
def fieldR (tb : Tb) (t : Nat) (s : S) (f : Nat) (h : List Blk) : Option S :=
  match Tb.at tb t with
  | some i => match i.d with
    | .st fs => match fs[f]? with
      | some (off, ty) => match Tb.at tb ty with
        | some j => match nb j.sz 0, isAddr h s with
          | false, true => addOff s off
          | _, _ => none
        | none => none
      | none => none
    | _ => none
  | none => none
theorem field_at {fields : Array Field} {f off ty : Nat} (h : (fields.toList.map fun f => (f.offset, f.type))[f]? = some (off, ty)) : ∃ fd : Field, fields[f]? = some fd ∧ fd.offset = off ∧ fd.type = ty := by
  rw [List.getElem?_map, Array.getElem?_toList] at h
  cases hf : fields[f]? with
  | none => rw [hf] at h; cases h
  | some fd =>
    rw [hf] at h; have := Option.some.inj h; simp only [Prod.mk.injEq] at this; exact ⟨fd, rfl, this.1, this.2⟩
theorem fieldR_ok {tb : Tb} {t f : Nat} {s s1 : S} {v : Value} (ok : TbOk P tb) (hl : fieldR tb t s f h = some s1) (hr : HR U ρ h w) (hs : SR U ρ h w s v) : ValOk P U ρ h w (Instr.fieldAt t v f) s1 h := by
  unfold fieldR at hl; split at hl <;> try (cases hl; done)
  rename_i i hi
  split at hl <;> try (cases hl; done)
  rename_i fs hd
  split at hl <;> try (cases hl; done)
  rename_i off ty hf
  split at hl <;> try (cases hl; done)
  rename_i j hj
  split at hl <;> try (cases hl; done)
  rename_i hz ha
  obtain ⟨fields, hu, rfl⟩ := (ok.at hi).st hd; obtain ⟨fd, hfd, rfl, rfl⟩ := field_at hf; obtain ⟨ad, rfl, hs1⟩ := addOff_ok hl hs (isAddr_ok ha hs); have hz' : j.sz ≠ 0 := nb_ne hz; refine ValOk.pure hr ?_ hs1; simp [Instr.fieldAt, run_underlying hu, hfd, Instr.sureAddr, fieldPlace, (ok.at hj).sizeOf w, hz']
theorem KS.row_at {e : Nat} {k : K} {xs : List k.T} {v : Value} (hk : KS U w (.row e k) xs [v]) (hsz : 0 < k.sz) {i : Nat} (hi : i < xs.length) :
    ∃ ad c cs, v = .slice (some ad) xs.length c ∧ xs.length ≤ c ∧ KS U w k (xs.getD i k.zero) cs ∧ ∀ j u, cs[j]? = some u → ∀ w', Agree U w w' → w'.cell? (ad.add (i * k.sz + j)) = some u := by
  obtain ⟨A, c, e1, hc, _, _, hr⟩ := hk.now; obtain ⟨ad, rfl, hcell⟩ := hr (by omega); obtain rfl := (List.cons.inj e1).1; have hget : xs[i]? = some (xs.getD i k.zero) := by rw [List.getD_eq_getElem?_getD, List.getElem?_eq_getElem hi]; rfl
  obtain ⟨cs, hl, hkr, hcs⟩ := hcell i _ hget
  have at_ : ∀ w', Agree U w w' → ∃ cs', cs'.length = k.sz ∧ KR w' k (xs.getD i k.zero) cs' ∧ ∀ j u, cs'[j]? = some u → w'.cell? (ad.add (i * k.sz + j)) = some u := fun w' hw => by
    obtain ⟨A', c', e2, _, _, _, hr'⟩ := hk w' hw; obtain ⟨ad', rfl, hcell'⟩ := hr' (by omega); have e3 := (List.cons.inj e2).1; injection e3 with e3
    injection e3 with e3
    subst e3; exact hcell' i _ hget
  have hb : ad.add (i * k.sz + 0) = ad.add (i * k.sz + 0) := rfl; have hblock : ∀ m, (ad.add m).block = ad.block := fun m => by unfold Addr.add; split <;> rfl
  have h0 : w.cell? (ad.add (i * k.sz + 0)) = some (cs[0]'(by omega)) := hcs 0 _ (List.getElem?_eq_getElem (by omega)); have hlt : ad.block < w.heap.size := by have := World.block_lt_of_cell? w _ h0; rwa [hblock] at this
  have hnU : ¬ U ad.block := fun hU => by
    have ag : Agree U w { w with heap := w.heap.setIfInBounds ad.block (.cells #[] 0) } := ⟨rfl, rfl, rfl, by simp, fun b _ hn => by
      have : ad.block ≠ b := fun e => hn (e ▸ hU)
      simp [Array.getElem?_setIfInBounds_ne this]⟩
    obtain ⟨cs', hl', _, hcs'⟩ := at_ _ ag; have := hcs' 0 _ (List.getElem?_eq_getElem (by omega)); unfold World.cell? at this; rw [hblock] at this; simp [hlt] at this
  refine ⟨ad, c, cs, rfl, hc, fun w' hw => ?_, fun j u hu w' hw => ?_⟩
  · obtain ⟨cs', hl', hkr', hcs'⟩ := at_ w' hw
    have : cs' = cs := by
      apply List.ext_getElem?; intro j; rcases Nat.lt_or_ge j k.sz with hj | hj
      · have h1 := hcs' j _ (List.getElem?_eq_getElem (by omega)); have h2 := hcs j _ (List.getElem?_eq_getElem (by omega)); have h3 := hw.cell h2 (by rw [hblock]; exact hnU); rw [h1] at h3; rw [List.getElem?_eq_getElem (by omega), List.getElem?_eq_getElem (by omega)]; exact h3
      · rw [List.getElem?_eq_none (by omega), List.getElem?_eq_none (by omega)]
    rw [← this]; exact hkr'
  · exact hw.cell (hcs j u hu) (by rw [hblock]; exact hnU)
def indexR (tb : Tb) (t : Nat) (s : S) (n : Int) (h : List Blk) : Option (S × Prop) :=
  match Tb.at tb t with
  | some i => match i.d with
    | .slice e => match Tb.at tb e with
      | some j => match s with
        | .one (.row _ k xs) => match nb k.sz j.sz, nb k.sz 0 with
          | true, false => some (.one (.at_ k (xs.getD n.toNat k.zero) 0), 0 ≤ n ∧ n < (xs.length : Int))
          | _, _ => none
        | .one (.own id) => match h[id]? with
          | some (.row _ k xs) => match nb k.sz j.sz with
            | true => some (.one (.elt id n.toNat 0), 0 ≤ n ∧ n < (xs.length : Int))
            | false => none
          | some (.frz _ k xs) => match nb k.sz j.sz, nb k.sz 0 with
            | true, false => some (.one (.at_ k (xs.getD n.toNat k.zero) 0), 0 ≤ n ∧ n < (xs.length : Int))
            | _, _ => none
          | _ => none
        | _ => none
      | none => none
    | .arr m e => match Tb.at tb e, isAddr h s with
      | some j, true => (addOff s (n.toNat * j.sz)).map fun s1 => (s1, 0 ≤ n ∧ n < (m : Int))
      | _, _ => none
    | _ => none
  | none => none
theorem run_index {t e : Nat} {j : TI} {A : Addr} {len cap : Nat} {n : Int} (hu : P.underlying t = some (.slice e)) (hj : TOk P e j) (kk : IntKind) (h0 : 0 ≤ n) (h1 : n < (len : Int)) : (Instr.indexAt t (.slice (some A) len cap) (.int kk n)).run P w = .ok (.pointer (some (A.add (n.toNat * j.sz)))) w := by
  simp [Instr.indexAt, asIntOf, run_underlying hu, h0, h1, hj.sizeOf w]
theorem run_index_arr {t e m : Nat} {j : TI} {A : Addr} {n : Int} (hu : P.underlying t = some (.array m e)) (hj : TOk P e j) (kk : IntKind) (h0 : 0 ≤ n) (h1 : n < (m : Int)) : (Instr.indexAt t (.pointer (some A)) (.int kk n)).run P w = .ok (.pointer (some (A.add (n.toNat * j.sz)))) w := by
  simp [Instr.indexAt, asIntOf, run_underlying hu, h0, h1, hj.sizeOf w, Instr.sureAddr]
theorem at_row {e : Nat} {k : K} {xs : List k.T} {v : Value} {n : Int} {j : TI} {t te : Nat} (hu : P.underlying t = some (.slice te)) (hj : TOk P te j) (hk : KS U w (.row e k) xs [v]) (hsz : nb k.sz j.sz = true) (hz : nb k.sz 0 = false) (hp : 0 ≤ n ∧ n < (xs.length : Int)) (kk : IntKind) (hr : HR U ρ h w) : ValOk P U ρ h w (Instr.indexAt t v (.int kk n)) (.one (.at_ k (xs.getD n.toNat k.zero) 0)) h := by
  have hz' : 0 < k.sz := Nat.pos_of_ne_zero (nb_ne hz); have hs' := nb_eq hsz; obtain ⟨ad, c, cs, rfl, hc, hks, hcell⟩ := hk.row_at hz' (i := n.toNat) (by omega); refine ValOk.pure hr (run_index hu hj kk hp.1 hp.2) ⟨_, cs, rfl, hks, fun m u hm w' hw => ?_⟩; rw [add_add', ← hs']; exact hcell m u (by simpa using hm) w' hw
theorem indexR_ok {tb : Tb} {t : Nat} {s s1 : S} {p : Prop} {n : Int} {v : Value} (ok : TbOk P tb) (hl : indexR tb t s n h = some (s1, p)) (hp : p) (hr : HR U ρ h w) (hs : SR U ρ h w s v) (kk : IntKind) : ValOk P U ρ h w (Instr.indexAt t v (.int kk n)) s1 h := by
  unfold indexR at hl; split at hl <;> try (cases hl; done)
  rename_i i hi
  split at hl <;> try (cases hl; done)
  · rename_i e hd
    have hu := (ok.at hi).slice hd; split at hl <;> try (cases hl; done)
    rename_i j hj
    split at hl <;> try (cases hl; done)
    · rename_i e' k xs
      split at hl <;> try (cases hl; done)
      rename_i hsz hz
      obtain ⟨rfl, rfl⟩ := (Prod.mk.injEq ..).mp (Option.some.inj hl); exact at_row hu (ok.at hj) hs hsz hz hp kk hr
    · rename_i id
      split at hl <;> try (cases hl; done)
      · rename_i e' k xs hid
        split at hl <;> try (cases hl; done)
        rename_i hsz
        obtain ⟨rfl, rfl⟩ := (Prod.mk.injEq ..).mp (Option.some.inj hl); have hv := hs.2.2 k (rowK_row hid); subst hv; obtain ⟨cs, h1, h2⟩ := hr.blk id _ hid; rcases h1.2 with ⟨_, h0⟩ | ⟨g, cap, cur, e1, _⟩
        · omega
        · rw [e1]; refine ValOk.pure hr (run_index hu (ok.at hj) kk hp.1 hp.2) ⟨rfl, (List.getElem?_eq_some_iff.1 hid).1, fun k' hk' => ?_⟩; rw [rowK_row hid] at hk'; obtain rfl := Option.some.inj hk'; refine ⟨g, _, cap, e1, ?_⟩; rw [Addr.add_lit, nb_eq hsz]; simp
      · rename_i e' k xs hid
        split at hl <;> try (cases hl; done)
        rename_i hsz hz
        obtain ⟨rfl, rfl⟩ := (Prod.mk.injEq ..).mp (Option.some.inj hl); have hv := hs.2.2 k (by simp [rowK, hid]); subst hv; exact at_row hu (ok.at hj) (hr.blk id _ hid) hsz hz hp kk hr
  · rename_i m e hd
    have hu := (ok.at hi).arr hd; split at hl <;> try (cases hl; done)
    rename_i j hj ha
    cases hq : addOff s (n.toNat * j.sz) with
    | none => rw [hq] at hl; cases hl
    | some s2 =>
      rw [hq] at hl; obtain ⟨rfl, rfl⟩ := (Prod.mk.injEq ..).mp (Option.some.inj hl); obtain ⟨ad, rfl, h2⟩ := addOff_ok hq hs (isAddr_ok ha hs); exact ValOk.pure hr (run_index_arr hu (ok.at hj) kk hp.1 hp.2) h2
def byteAt (s : ByteArray) (n : Int) : Int := ((s[n.toNat]?).getD 0).toNat
def strIndexR (tb : Tb) (t : Nat) (x : S) (n : Int) : Option (S × Prop) :=
  match Tb.at tb t, x with
  | some i, .one (.str s) => match i.d with
    | .str => some (.one (.int .u8 (byteAt s n)), 0 ≤ n ∧ n < (s.size : Int))
    | _ => none
  | _, _ => none
theorem strIndexR_ok {tb : Tb} {t : Nat} {s s1 : S} {p : Prop} {n : Int} {v : Value} (ok : TbOk P tb) (hl : strIndexR tb t s n = some (s1, p)) (hp : p) (hr : HR U ρ h w) (hs : SR U ρ h w s v) (kk : IntKind) : ValOk P U ρ h w (Instr.index t v (.int kk n)) s1 h := by
  unfold strIndexR at hl; split at hl <;> try (cases hl; done)
  rename_i i s hi
  split at hl <;> try (cases hl; done)
  rename_i hd
  obtain ⟨rfl, rfl⟩ := (Prod.mk.injEq ..).mp (Option.some.inj hl); obtain rfl : v = .string s := hs; have hlt : n.toNat < s.size := by omega
  have hg : s[n.toNat]? = some s[n.toNat] := getElem?_pos s n.toNat hlt; refine ValOk.pure hr (v := .int .u8 (byteAt s n)) ?_ rfl; simp [Instr.index, asIntOf, run_underlying ((ok.at hi).str hd), hp.1, hg, byteAt]
end
end Go.Den
end
section
-- the texts that this claim needs, out of this session's and its print's (wip/shrink.py)
namespace Go.Den
open Go Go.RowKit
section
variable {P : Program} {U U1 : Nat → Prop} {ρ ρ1 : Nat → Value} {h h1 : List Blk} {w w1 : World}
def bnd (o : Option S) (d : Int) : Option Int := match o with
  | none => some d
  | some (.one (.int _ n)) => some n
  | _ => none
def sliceR (tb : Tb) (t : Nat) (x : S) (lo hi : Option S) (h : List Blk) : Option (S × List Blk × Prop) :=
  match Tb.at tb t, x with
  | some i, .one (.str s) => match i.d, bnd lo 0, bnd hi s.size with
    | .str, some l, some r => some (.one (.str (s.extract l.toNat r.toNat)), h, 0 ≤ l ∧ l ≤ r ∧ r ≤ (s.size : Int))
    | _, _, _ => none
  | some i, .one (.row e k xs) => match i.d, bnd lo 0, bnd hi (xs.length : Int) with
    | .slice te, some l, some r => match Tb.at tb te with
      | some j => match nb k.sz j.sz with
        | true => some (.one (.row e k ((xs.take r.toNat).drop l.toNat)), h, 0 ≤ l ∧ l ≤ r ∧ r ≤ (xs.length : Int))
        | false => none
      | none => none
    | _, _, _ => none
  | _, _ => none
def OptR (U : Nat → Prop) (ρ : Nat → Value) (h : List Blk) (w : World) : Option S → Option Value → Prop
  | none, none => True
  | some s, some v => SR U ρ h w s v
  | _, _ => False
theorem bnd_ok {lo : Option S} {vlo : Option Value} {d n : Int} (hb : bnd lo d = some n) (hs : OptR U ρ h w lo vlo) : (lo = none ∧ vlo = none ∧ n = d) ∨ ∃ kk, vlo = some (.int kk n) := by
  unfold bnd at hb; split at hb
  · obtain rfl := Option.some.inj hb
    cases vlo with
    | none => exact .inl ⟨rfl, rfl, rfl⟩
    | some v => exact hs.elim
  · obtain rfl := Option.some.inj hb
    cases vlo with
    | none => exact hs.elim
    | some v => exact .inr ⟨_, by rw [show v = _ from hs]⟩
  · cases hb
theorem run_bounds {len cap : Nat} {vlo vhi : Option Value} {l r : Int} (sl : Bool) (h1 : (vlo = none ∧ l = 0) ∨ ∃ kk, vlo = some (.int kk l)) (h2 : (vhi = none ∧ r = (len : Int)) ∨ ∃ kk, vhi = some (.int kk r)) (hp : 0 ≤ l ∧ l ≤ r ∧ r ≤ (len : Int)) (hc : len ≤ cap) :
    (Instr.sliceBounds sl len cap vlo vhi none).run P w = .ok (l.toNat, r.toNat, cap) w := by
  have hr0 : (0 : Int) ≤ r := by omega
  have hrc : r ≤ (cap : Int) := by omega
  have hm : max r 0 = r := by omega
  have hl : l ≤ (r.toNat : Int) := by omega
  have hl2 : (0 : Int) ≤ l := hp.1; rcases h1 with ⟨rfl, rfl⟩ | ⟨kk, rfl⟩ <;> rcases h2 with ⟨rfl, rfl⟩ | ⟨kk', rfl⟩
  · simp [Instr.sliceBounds]
  · simp [Instr.sliceBounds, Instr.sliceBound, asIntOf, hr0, hrc]
  · have : l ≤ (len : Int) := hp.2.1; simp [Instr.sliceBounds, Instr.sliceBound, asIntOf, hl2, this]
  · simp [Instr.sliceBounds, Instr.sliceBound, asIntOf, hr0, hrc, hl2, hl, hm, hp.2.1]
theorem sliceR_ok {tb : Tb} {t : Nat} {x s1 : S} {lo hi : Option S} {p : Prop} {v : Value} {vlo vhi : Option Value} (ok : TbOk P tb) (hl : sliceR tb t x lo hi h = some (s1, h1, p)) (hp : p) (hr : HR U ρ h w) (hx : SR U ρ h w x v)
    (hlo : OptR U ρ h w lo vlo) (hhi : OptR U ρ h w hi vhi) : ValOk P U ρ h w (Instr.sliceAt t v vlo vhi none) s1 h1 := by
  unfold sliceR at hl; split at hl <;> try (cases hl; done)
  · rename_i i s hi'
    split at hl <;> try (cases hl; done)
    rename_i l r hd hbl hbr
    obtain ⟨rfl, h2⟩ := (Prod.mk.injEq ..).mp (Option.some.inj hl); obtain ⟨rfl, rfl⟩ := (Prod.mk.injEq ..).mp h2; obtain rfl : v = .string s := hx; have hb := run_bounds (P := P) (w := w) (len := s.size) (cap := s.size) false ((bnd_ok hbl hlo).imp (fun h => ⟨h.2.1, h.2.2⟩) (fun h => h)) ((bnd_ok hbr hhi).imp (fun h => ⟨h.2.1, h.2.2⟩) (fun h => h)) hp (Nat.le_refl _); refine ValOk.pure hr (v := .string (s.extract l.toNat r.toNat)) ?_ rfl; simp [Instr.sliceAt, Instr.slice, run_underlying ((ok.at hi').str hd), hb]
  · rename_i i e k xs hi'
    split at hl <;> try (cases hl; done)
    rename_i te l r hd hbl hbr
    split at hl <;> try (cases hl; done)
    rename_i j hj
    split at hl <;> try (cases hl; done)
    rename_i hsz
    obtain ⟨rfl, h2⟩ := (Prod.mk.injEq ..).mp (Option.some.inj hl); obtain ⟨rfl, rfl⟩ := (Prod.mk.injEq ..).mp h2; have hk : KS U w (.row e k) xs [v] := hx; obtain ⟨A, c, e1, hc, _⟩ := hk.now; obtain rfl := (List.cons.inj e1).1; have hb := run_bounds (P := P) (w := w) (len := xs.length) (cap := c) true ((bnd_ok hbl hlo).imp (fun h => ⟨h.2.1, h.2.2⟩) (fun h => h)) ((bnd_ok hbr hhi).imp (fun h => ⟨h.2.1, h.2.2⟩) (fun h => h)) hp hc; have hsz' := nb_eq hsz; refine ValOk.pure hr (v := .slice (if c = l.toNat then A else A.map (·.add (l.toNat * j.sz))) (r.toNat - l.toNat) (c - l.toNat)) ?_ ?_
    · have hu := (ok.at hi').slice hd; simp [Instr.sliceAt, Instr.slice, run_underlying hu, hb, (ok.at hj).sizeOf w]
    · intro w' hw; obtain ⟨A', c', e2, hc', hn, hm, hr'⟩ := hk w' hw; have e3 := (List.cons.inj e2).1; injection e3 with e3 _ e4
      subst e3 e4; have hlen : ((xs.take r.toNat).drop l.toNat).length = r.toNat - l.toNat := by rw [List.length_drop, List.length_take]; omega
      refine ⟨_, _, by rw [hlen], by rw [hlen]; omega, rfl, by rw [hlen]; omega, fun hpos => ?_⟩; rw [hlen] at hpos; obtain ⟨ad, rfl, hcell⟩ := hr' (by omega); rw [if_neg (by omega)]; refine ⟨_, rfl, fun m q hq => ?_⟩; rw [List.getElem?_drop, List.getElem?_take] at hq; split at hq
      · obtain ⟨cs, g1, g2, g3⟩ := hcell _ q hq; refine ⟨cs, g1, g2, fun a u hu => ?_⟩; rw [add_add', ← hsz', ← g3 a u hu]; congr 2; rw [Nat.add_mul]; omega
      · cases hq
theorem Agree.of_grown {w w' : World} (hg : w.grownBy w' none) : Agree (fun _ => False) w w' := ⟨hg.os, hg.tape, hg.output, hg.size, fun b hb _ => hg.block b hb (by simp)⟩
theorem Go1.newRow {e : Nat} {k : K} {xs : List k.T} {v : Value} {cs : List Value} (hr : HR U ρ h w) (ag : Agree (fun _ => False) w w1) (ho : w1.ownsRow 0 e k.sz v xs.length cs) (hnew : ∀ g, v.ownBlock = some g → w.heap.size ≤ g) (hl : ∀ U1, Tr U w U1 w1 → Lie (KS U1 w1 k) k.sz xs cs) :
    Go1 U ρ h w (fun x => (U x ∧ x < w.heap.size) ∨ v.ownBlock = some x) (upd ρ h.length v) (h ++ [.row e k xs]) w1 :=
  Go1.push (g := v.ownBlock) hr ag (by rw [place_row (get_push h _), upd_at]) (fun x hx => ⟨hnew x hx, (ho.lt x hx).2⟩) (fun U1 tr _ => ⟨cs, by rw [upd_at]; exact ho, hl U1 tr⟩)
theorem CR.newRow {e : Nat} {k : K} {xs : List k.T} {v : Value} (hv : v.oneCell' = true) : CR U (upd ρ h.length v) (h ++ [.row e k xs]) w1 (.own h.length) v := ⟨hv, by simp, fun _ _ => (upd_at _ _ _).symm⟩
def rowB (by_ : Nat) (n : Nat) : Prop := n * by_ ≤ 140737488355328
def makeR (tb : Tb) (t : Nat) (l c : S) (h : List Blk) : Option (S × List Blk × Prop) :=
  match Tb.at tb t, l, c with
  | some i, .one (.int _ n), .one (.int _ m) => match i.d with
    | .slice e => match Tb.at tb e with
      | some j => match j.k with
        | some k => match nb k.sz 0, nb j.by_ 0 with
          | false, false => some (.one (.own h.length), h ++ [.row e k (List.replicate n.toNat k.zero)], 0 ≤ n ∧ m = n ∧ rowB j.by_ n.toNat)
          | _, _ => none
        | none => none
      | none => none
    | _ => none
  | _, _, _ => none
theorem lie_made {k : K} {z : Array Value} {n : Nat} (hz : KS U w k k.zero z.toList) (hs : z.size = k.sz) : Lie (KS U w k) k.sz (List.replicate n k.zero) (madeCells z (n * k.sz)).toList := by
  refine ⟨by simp [size_madeCells], fun j p hj => ?_⟩; rw [List.getElem?_replicate] at hj; split at hj
  · rename_i hjn
    obtain rfl := Option.some.inj hj
    have : ((madeCells z (n * k.sz)).toList.drop (j * k.sz)).take k.sz = z.toList := by
      apply List.ext_getElem?; intro q; rw [List.getElem?_take]; split
      · rename_i hq
        have h1 : j * k.sz + k.sz ≤ n * k.sz := by rw [← Nat.succ_mul]; exact Nat.mul_le_mul_right _ hjn
        have h2 : j * k.sz + q < n * k.sz := by omega
        have h3 : (j * k.sz + q) % k.sz = q := by rw [Nat.mul_comm, Nat.mul_add_mod, Nat.mod_eq_of_lt hq]
        rw [List.getElem?_drop, Array.getElem?_toList]; simp [madeCells, h2, hs, h3, hq]
      · rename_i hq
        rw [List.getElem?_eq_none]; simp; omega
    rw [this]; exact hz
  · cases hj
theorem makeR_ok {tb : Tb} {t : Nat} {l c s1 : S} {p : Prop} {vl vc : Value} (ok : TbOk P tb) (hm : makeR tb t l c h = some (s1, h1, p)) (hp : p) (hr : HR U ρ h w) (hl : SR U ρ h w l vl) (hc : SR U ρ h w c vc) : ValOk P U ρ h w (Instr.makeSlice t vl vc) s1 h1 := by
  unfold makeR at hm; split at hm <;> try (cases hm; done)
  rename_i i k1 n k2 m hi
  split at hm <;> try (cases hm; done)
  rename_i e hd
  split at hm <;> try (cases hm; done)
  rename_i j hj
  split at hm <;> try (cases hm; done)
  rename_i k hk
  split at hm <;> try (cases hm; done)
  rename_i hz hb
  obtain ⟨rfl, h2⟩ := (Prod.mk.injEq ..).mp (Option.some.inj hm); obtain ⟨rfl, rfl⟩ := (Prod.mk.injEq ..).mp h2; obtain rfl : vl = .int k1 n := hl; obtain rfl : vc = .int k2 m := hc; obtain ⟨h0, rfl, hrow⟩ := hp; have hz' : k.sz ≠ 0 := nb_ne hz; have hb' : j.by_ ≠ 0 := nb_ne hb; obtain ⟨q, z, hq, hqs, hqb, hqz, hzl⟩ := (ok.at hj).inf; have hks := ((ok.at hj).kind k hk).1; have hle : m.toNat ≤ m.toNat * j.by_ := Nat.le_mul_of_pos_right _ (Nat.pos_of_ne_zero hb'); have hrow' : m.toNat * j.by_ ≤ 140737488355328 := hrow
  have hby : (q.bytes : Int) * m ≤ 281474976710656 := by
    rw [hqb]; have h1 : ((j.by_ * m.toNat : Nat) : Int) ≤ 281474976710656 := by rw [Nat.mul_comm]; omega
    rwa [Int.natCast_mul, Int.toNat_of_nonneg h0] at h1
  have hrun := run_make (P := P) w t e q z ((ok.at hi).slice hd) hq hqz k1 k2 m m h0 (Int.le_refl _) hby (by omega)
  have hzs : z.cells.size = k.sz := by
    have := (KS.now ((ok.at hj).zero (U := U) (w := w) hk)).len; rw [← hzl] at this; simpa using this
  rw [hqs, ← hks] at hrun; have ho := World.ownsRow_lit (base := 0) (e := e) (size := k.sz) w (madeCells z.cells (m.toNat * k.sz)) m.toNat (Nat.zero_le _) (by simp only [maxLen]; omega) (size_madeCells _ _); have ag : Agree (fun _ => False) w (w.alloc (.cells (madeCells z.cells (m.toNat * k.sz)) e)) := Agree.of_grown (World.grownBy_alloc w _ none); refine ⟨_, _, _, _, hrun, Go1.newRow hr ag (v := .slice (some ⟨w.heap.size, 0, none⟩) m.toNat m.toNat) (by simpa using ho) (fun g hg => ?_) (fun U1 tr => ?_), CR.newRow rfl⟩
  · simp [Value.ownBlock] at hg; omega
  · exact lie_made (by rw [hzl]; exact (ok.at hj).zero hk) hzs
theorem KS.flat_row {e : Nat} {k : K} {ys : List k.T} {v : Value} (hk : KS U w (.row e k) ys [v]) (hsz : 0 < k.sz) :
    ∃ A c news, v = .slice A ys.length c ∧ (0 < ys.length → ∃ ad, A = some ad ∧ ∀ j u, news[j]? = some u → w.cell? (ad.add j) = some u) ∧ news.length = ys.length * k.sz ∧ Lie (KS U w k) k.sz ys news := by
  rcases Nat.eq_zero_or_pos ys.length with h0 | h0
  · obtain ⟨A, c, e1, _⟩ := hk.now; obtain rfl := (List.cons.inj e1).1; exact ⟨A, c, [], rfl, fun hp => by omega, by simp [h0], by simp [h0], fun j p hj => by rw [List.eq_nil_of_length_eq_zero h0] at hj; simp at hj⟩
  · obtain ⟨ad, c, _, rfl, _⟩ := hk.row_at hsz (i := 0) h0
    have each : ∀ i, i < ys.length → ∃ cs, KS U w k (ys.getD i k.zero) cs ∧ ∀ j u, cs[j]? = some u → w.cell? (ad.add (i * k.sz + j)) = some u := fun i hi => by
      obtain ⟨ad', c', cs, e1, _, h2, h3⟩ := hk.row_at hsz hi; injection e1 with e1
      injection e1 with e1
      subst e1; exact ⟨cs, h2, fun j u hu => h3 j u hu w (Agree.refl _ _)⟩
    refine ⟨_, c, (List.range (ys.length * k.sz)).map (fun p => (w.cell? (ad.add p)).getD undef), rfl, fun _ => ⟨ad, rfl, fun j u hu => ?_⟩, by simp, by simp, fun j p hj => ?_⟩
    · rw [List.getElem?_map] at hu
      have hj : j < ys.length * k.sz := by
        rcases Nat.lt_or_ge j (ys.length * k.sz) with h | h
        · exact h
        · rw [List.getElem?_eq_none (by simpa using h)] at hu; cases hu
      rw [List.getElem?_range hj] at hu; have hu : (w.cell? (ad.add j)).getD undef = u := Option.some.inj hu; have hdiv : j / k.sz < ys.length := (Nat.div_lt_iff_lt_mul hsz).2 hj; obtain ⟨cs, h2, h3⟩ := each _ hdiv; have hlen : cs.length = k.sz := h2.now.len; have hmod : j % k.sz < cs.length := by rw [hlen]; exact Nat.mod_lt _ hsz
      have := h3 (j % k.sz) _ (List.getElem?_eq_getElem hmod); rw [Nat.div_add_mod'] at this; rw [this] at hu ⊢; rw [← hu]; rfl
    · have hjl := (List.getElem?_eq_some_iff.1 hj).1; obtain ⟨cs, h2, h3⟩ := each j hjl; have hlen : cs.length = k.sz := h2.now.len; have hp : ys.getD j k.zero = p := by rw [List.getD_eq_getElem?_getD, hj]; rfl
      rw [hp] at h2
      have : (((List.range (ys.length * k.sz)).map (fun p => (w.cell? (ad.add p)).getD undef)).drop (j * k.sz)).take k.sz = cs := by
        apply List.ext_getElem?; intro q; rw [List.getElem?_take]; split
        · rename_i hq
          have h1 : j * k.sz + k.sz ≤ ys.length * k.sz := by rw [← Nat.succ_mul]; exact Nat.mul_le_mul_right _ hjl
          rw [List.getElem?_drop, List.getElem?_map, List.getElem?_range (by omega)]; have := h3 q _ (List.getElem?_eq_getElem (by omega)); simp [this, List.getElem?_eq_getElem (show q < cs.length by omega)]
        · rw [List.getElem?_eq_none (by omega)]
      rw [this]; exact h2
theorem Lie.append {α : Type} {R : α → List Value → Prop} {sz : Nat} {xs ys : List α} {cs ds : List Value} (h : Lie R sz xs cs) (h' : Lie R sz ys ds) : Lie R sz (xs ++ ys) (cs ++ ds) := by
  refine ⟨by rw [List.length_append, h.1, h'.1, List.length_append, Nat.add_mul], fun j p hj => ?_⟩; rcases Nat.lt_or_ge j xs.length with hl | hl
  · rw [List.getElem?_append_left hl] at hj; have h1 : j * sz + sz ≤ cs.length := by rw [h.1, ← Nat.succ_mul]; exact Nat.mul_le_mul_right _ hl
    rw [List.drop_append_of_le_length (by omega), List.take_append_of_le_length (by rw [List.length_drop]; omega)]; exact h.2 j p hj
  · rw [List.getElem?_append_right hl] at hj; have h1 : cs.length ≤ j * sz := by rw [h.1]; exact Nat.mul_le_mul_right _ hl
    rw [List.drop_append, List.drop_of_length_le h1, List.nil_append]; have : j * sz - cs.length = (j - xs.length) * sz := by rw [h.1, Nat.sub_mul]
    rw [this]; exact h'.2 _ p hj
end
end Go.Den
end
