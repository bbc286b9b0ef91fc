import Derived.Test.YtibfkkjkahpobaaGreatFt20
import Derived.LoopN
set_option linter.unusedVariables false
set_option linter.unusedSimpArgs false
set_option maxHeartbeats 8000000
set_option maxRecDepth 100000
section
-- the texts that this claim needs, out of this session's and its print's (wip/shrink.py)
namespace Go.Den
open Go Go.RowKit
section
variable {P : Program} {U U1 : Nat → Prop} {ρ ρ1 : Nat → Value} {h h1 : List Blk} {w w1 : World}
def asgR (tb : Tb) (t : Nat) (s : S) (h : List Blk) : Option (S × List Blk) :=
  match s with
  | .one .nil => match Tb.at tb t with
    | some i => match i.d with
      | .slice e => match Tb.at tb e with
        | some j => match j.k with
          | some k => some (.one (.own h.length), h ++ [.row e k []])
          | none => none
        | none => none
      | _ => none
    | none => none
  | s => some (s, h)
theorem asgR_ok {tb : Tb} {t : Nat} {s s1 : S} {v : Value} {e : Sem Value} (ha : asgR tb t s h = some (s1, h1)) (hr : HR U ρ h w) (hs : SR U ρ h w s v) (he : e.run P w = .ok v w) : ValOk P U ρ h w e s1 h1 := by
  unfold asgR at ha; split at ha
  · split at ha <;> try (cases ha; done)
    split at ha <;> try (cases ha; done)
    split at ha <;> try (cases ha; done)
    split at ha <;> try (cases ha; done)
    rename_i te _ _ _ _ k _
    obtain ⟨rfl, rfl⟩ := (Prod.mk.injEq ..).mp (Option.some.inj ha); obtain rfl : v = .slice none 0 0 := hs; exact ⟨_, w, _, _, he, Go1.newRow (xs := ([] : List k.T)) (cs := []) hr (Agree.refl _ _) (World.ownsRow_nil _ _ _ _) (fun g hg => by cases hg) (fun U1 tr => ⟨by simp, fun j p hj => by simp at hj⟩), CR.newRow rfl⟩
  · obtain ⟨rfl, rfl⟩ := (Prod.mk.injEq ..).mp (Option.some.inj ha); exact ValOk.pure hr he hs
def unR (op : UnOp) (x : S) : Option S := match op, x with
  | .not, .one (.bool b) => some (.one (.bool (!b)))
  | .neg, .one (.int k n) => some (.one (.int k (k.wrap (0 - n))))
  | .xor, .one (.int k n) => some (.one (.int k (k.wrap (BitVec.ofInt k.bits (if k.signed then -1 else k.max) ^^^ BitVec.ofInt k.bits n).toNat)))
  | _, _ => none
theorem unR_ok {op : UnOp} {x s1 : S} {v : Value} (hu : unR op x = some s1) (hr : HR U ρ h w) (hx : SR U ρ h w x v) : ValOk P U ρ h w (Op.unary op v) s1 h := by
  unfold unR at hu; split at hu <;> try (cases hu; done)
  all_goals (obtain rfl := Option.some.inj hu; rw [show v = _ from hx])
  · exact ValOk.pure hr (v := .bool _) (by simp [Op.unary]) rfl
  · exact ValOk.pure hr (v := .int _ _) (by simp [Op.unary, Op.intArith]) rfl
  · exact ValOk.pure hr (v := .int _ _) (by simp [Op.unary, Op.intBits]) rfl
def convR (tb : Tb) (src dst : Nat) (x : S) : Option S := match Tb.at tb src, Tb.at tb dst, x with
  | some _, some j, .one (.int _ n) => match j.d with
    | .int k => some (.one (.int k (k.wrap n)))
    | _ => none
  | some _, some j, .one (.str s) => match j.d with
    | .str => some (.one (.str s))
    | _ => none
  | _, _, _ => none
theorem und_some {t : Nat} {i : TI} (ht : TOk P t i) : ∃ d, P.underlying t = some d := by
  have := ht.und
  cases hu : P.underlying t with
  | none => rw [hu] at this; cases this
  | some d => exact ⟨d, rfl⟩
theorem convR_ok {tb : Tb} {src dst : Nat} {x s1 : S} {v : Value} (ok : TbOk P tb) (hu : convR tb src dst x = some s1) (hr : HR U ρ h w) (hx : SR U ρ h w x v) : ValOk P U ρ h w (Go.convert src dst v) s1 h := by
  unfold convR at hu; split at hu <;> try (cases hu; done)
  · rename_i hs hd
    split at hu <;> try (cases hu; done)
    rename_i hk
    obtain rfl := Option.some.inj hu; obtain ⟨d, hd'⟩ := und_some (ok.at hs); rw [show v = _ from hx]; exact ValOk.pure hr (v := .int _ _) (by simp [Go.convert, run_underlying hd', run_underlying ((ok.at hd).int hk), Conv.intToInt]) rfl
  · rename_i hs hd
    split at hu <;> try (cases hu; done)
    rename_i hk
    obtain rfl := Option.some.inj hu; obtain ⟨d, hd'⟩ := und_some (ok.at hs); rw [show v = _ from hx]; exact ValOk.pure hr (v := .string _) (by simp [Go.convert, run_underlying hd', run_underlying ((ok.at hd).str hk)]) rfl
def partR (tb : Tb) (t : Nat) (l : List C) (off : Nat) : Option S := match Tb.at tb t with
  | some j => match j.d.agg with
    | true => some (.agg ((l.drop off).take j.sz))
    | false => match l[off]? with
      | some c => some (.one c)
      | none => none
  | none => none
theorem partR_ok {tb : Tb} {t off : Nat} {l : List C} {us : Array Value} {s1 : S} (ok : TbOk P tb) (hp : partR tb t l off = some s1) (ha : All2 (CR U ρ h w) l us.toList) : ∃ v, (part t us off).run P w = .ok v w ∧ SR U ρ h w s1 v := by
  unfold partR at hp; split at hp <;> try (cases hp; done)
  rename_i j hj
  split at hp
  · rename_i hd
    obtain rfl := Option.some.inj hp; refine ⟨.agg (us.extract off (off + j.sz)), ?_, _, rfl, ?_⟩
    · simp [part, (ok.at hj).isAgg w, hd, (ok.at hj).sizeOf w]
    · have := (ha.drop off).take j.sz; simpa [List.extract_eq_take_drop] using this
  · rename_i hd
    split at hp <;> try (cases hp; done)
    rename_i c hc
    obtain rfl := Option.some.inj hp; obtain ⟨v, hv, hcr⟩ := ha.get hc; refine ⟨v, ?_, hcr⟩; rw [Array.getElem?_toList] at hv; simp [part, (ok.at hj).isAgg w, hd, hv]
def fieldVR (tb : Tb) (t : Nat) (x : S) (f : Nat) : Option S := match Tb.at tb t, x with
  | some i, .agg l => match i.d with
    | .st fs => match fs[f]? with
      | some (off, ty) => partR tb ty l off
      | none => none
    | _ => none
  | _, _ => none
theorem fieldVR_ok {tb : Tb} {t f : Nat} {x s1 : S} {v : Value} (ok : TbOk P tb) (hl : fieldVR tb t x f = some s1) (hr : HR U ρ h w) (hs : SR U ρ h w x v) : ValOk P U ρ h w (Instr.field t v f) s1 h := by
  unfold fieldVR at hl; split at hl <;> try (cases hl; done)
  rename_i i l hi
  split at hl <;> try (cases hl; done)
  rename_i fs hd
  split at hl <;> try (cases hl; done)
  rename_i off ty hf
  obtain ⟨fields, hu, rfl⟩ := (ok.at hi).st hd; obtain ⟨fd, hfd, rfl, rfl⟩ := field_at hf; obtain ⟨us, rfl, ha⟩ := hs; obtain ⟨v, h1, h2⟩ := partR_ok ok hl ha; exact ValOk.pure hr (by simp [Instr.field, run_underlying hu, hfd, asAgg, h1]) h2
def arrIndexR (tb : Tb) (t : Nat) (x : S) (n : Int) : Option (S × Prop) := match Tb.at tb t, x with
  | some i, .agg l => match i.d with
    | .arr m e => match Tb.at tb e with
      | some j => (partR tb e l (n.toNat * j.sz)).map fun s => (s, 0 ≤ n ∧ n < (m : Int))
      | none => none
    | _ => none
  | _, _ => none
theorem arrIndexR_ok {tb : Tb} {t : Nat} {s s1 : S} {p : Prop} {n : Int} {v : Value} (ok : TbOk P tb) (hl : arrIndexR tb t s n = some (s1, p)) (hp : p) (hr : HR U ρ h w) (hs : SR U ρ h w s v) (kk : IntKind) : ValOk P U ρ h w (Instr.index t v (.int kk n)) s1 h := by
  unfold arrIndexR at hl; split at hl <;> try (cases hl; done)
  rename_i i l hi
  split at hl <;> try (cases hl; done)
  rename_i m e hd
  split at hl <;> try (cases hl; done)
  rename_i j hj
  obtain ⟨s0, hq, hh⟩ := Option.map_eq_some_iff.1 hl; obtain ⟨rfl, rfl⟩ := (Prod.mk.injEq ..).mp hh; obtain ⟨us, rfl, ha⟩ := hs; obtain ⟨v, h1, h2⟩ := partR_ok ok hq ha; refine ValOk.pure hr ?_ h2; simp [Instr.index, asIntOf, run_underlying ((ok.at hi).arr hd), hp.1, hp.2, (ok.at hj).sizeOf w, h1]
def anyIndexR (tb : Tb) (t : Nat) (x : S) (n : Int) : Option (S × Prop) := match x with
  | .agg l => arrIndexR tb t (.agg l) n
  | s => strIndexR tb t s n
theorem anyIndexR_ok {tb : Tb} {t : Nat} {s s1 : S} {p : Prop} {n : Int} {v : Value} (ok : TbOk P tb) (hl : anyIndexR tb t s n = some (s1, p)) (hp : p) (hr : HR U ρ h w) (hs : SR U ρ h w s v) (kk : IntKind) : ValOk P U ρ h w (Instr.index t v (.int kk n)) s1 h := by
  unfold anyIndexR at hl; split at hl
  · exact arrIndexR_ok ok hl hp hr hs kk
  · exact strIndexR_ok ok hl hp hr hs kk
def extractR (x : S) (n : Nat) : Option S := match x with
  | .tup l => match l[n]? with
    | some (true, cs) => some (.agg cs)
    | some (false, [c]) => some (.one c)
    | _ => none
  | _ => none
theorem extractR_ok {x s1 : S} {n : Nat} {v : Value} (hl : extractR x n = some s1) (hr : HR U ρ h w) (hs : SR U ρ h w x v) : ValOk P U ρ h w (Instr.extract v n) s1 h := by
  unfold extractR at hl; split at hl <;> try (cases hl; done)
  rename_i l
  obtain ⟨vs, rfl, ha⟩ := hs; split at hl <;> try (cases hl; done)
  · rename_i cs hn
    obtain rfl := Option.some.inj hl; obtain ⟨u, hu, hp⟩ := ha.get hn; rw [Array.getElem?_toList] at hu
    have hp : SR U ρ h w (.agg cs) u := by
      simp only [PartR, if_true] at hp; exact hp
    exact ValOk.pure hr (by simp [Instr.extract, hu]) hp
  · rename_i c hn
    obtain rfl := Option.some.inj hl; obtain ⟨u, hu, hp⟩ := ha.get hn; rw [Array.getElem?_toList] at hu; obtain ⟨c', hc, hcr⟩ : ∃ c', [c] = [c'] ∧ CR U ρ h w c' u := by simpa [PartR] using hp
    obtain rfl := (List.cons.inj hc).1; exact ValOk.pure hr (by simp [Instr.extract, hu]) hcr
def capsR (h : List Blk) : List S → Option (List Nat)
  | [] => some []
  | .one (.ptr id 0) :: r => match isBox h id with
    | true => (capsR h r).map (id :: ·)
    | false => none
  | _ => none
theorem capsR_ok : ∀ (l : List S) {ids : List Nat} {vs : List Value}, capsR h l = some ids → HR U ρ h w → All2 (SR U ρ h w) l vs → All2 (fun id u => u.oneCell' = true ∧ id < h.length ∧ (isBox h id = true → u = ρ id)) ids vs
  | [], ids, vs, hc, hr, ha => by
    obtain rfl := Option.some.inj hc; rw [ha.left_nil]
    exact All2.nil
  | s :: r, ids, vs, hc, hr, ha => by
    obtain ⟨v, vs', rfl, hs, ht⟩ := ha.left_cons; unfold capsR at hc; split at hc <;> try (cases hc; done)
    · rename_i heq; cases heq
    · rename_i id _ heq
      injection heq with e1 e2
      subst e1 e2; split at hc <;> try (cases hc; done)
      rename_i hb
      cases hq : capsR h r with
      | none => rw [hq] at hc; cases hc
      | some l =>
        rw [hq] at hc; obtain rfl := Option.some.inj hc; refine All2.cons ⟨hs.1, hs.2.1, fun hb => ?_⟩ (capsR_ok r hq hr ht); obtain ⟨g, e1, e2⟩ := hs.2.2 hb; rw [e1, e2]
def lenR (tb : Tb) (t : Nat) (x : S) (h : List Blk) : Option Int := match Tb.at tb t, x with
  | some i, .one (.str s) => match i.d with
    | .str => some s.size
    | _ => none
  | some i, .one (.row _ _ xs) => match i.d with
    | .slice _ => some xs.length
    | _ => none
  | some i, .one (.own id) => match i.d, h[id]? with
    | .slice _, some (.row _ _ xs) => some xs.length
    | .slice _, some (.frz _ _ xs) => some xs.length
    | _, _ => none
  | some i, .one .nil => match i.d with
    | .slice _ => some 0
    | _ => none
  | some i, .agg _ => match i.d with
    | .arr n _ => some n
    | _ => none
  | _, _ => none
theorem run_len_slice' {t e ty : Nat} {A : Option Addr} {n c : Nat} (hu : P.underlying t = some (.slice e)) : (Builtin.len_ #[t] ty #[.slice A n c]).run P w = .ok (.int .i64 n) w := by
  simp [Builtin.len_, run_underlying hu, goInt]
theorem lenR_ok {tb : Tb} {t ty : Nat} {x : S} {n : Int} {v : Value} (ok : TbOk P tb) (hl : lenR tb t x h = some n) (hr : HR U ρ h w) (hs : SR U ρ h w x v) : (Builtin.len_ #[t] ty #[v]).run P w = .ok (.int .i64 n) w := by
  unfold lenR at hl; split at hl <;> try (cases hl; done)
  · rename_i i s hi
    split at hl <;> try (cases hl; done)
    rename_i hd
    obtain rfl := Option.some.inj hl; rw [show v = _ from hs]; simp [Builtin.len_, run_underlying ((ok.at hi).str hd), goInt]
  · rename_i i e k xs hi
    split at hl <;> try (cases hl; done)
    rename_i hd
    obtain rfl := Option.some.inj hl; obtain ⟨A, c, e1, _⟩ := KS.now (k := .row e k) hs; obtain rfl := (List.cons.inj e1).1; exact run_len_slice' ((ok.at hi).slice hd)
  · rename_i i id hi
    split at hl <;> try (cases hl; done)
    · rename_i e k xs hd hid
      obtain rfl := Option.some.inj hl; obtain rfl := hs.2.2 k (rowK_row hid); obtain ⟨cs, h1, _⟩ := hr.blk _ _ hid; rcases h1.2 with ⟨e1, h0⟩ | ⟨g, cap, cur, e1, _⟩
      · rw [e1, h0]; exact run_len_slice' ((ok.at hi).slice hd)
      · rw [e1]; exact run_len_slice' ((ok.at hi).slice hd)
    · rename_i e k xs hd hid
      obtain rfl := Option.some.inj hl; obtain rfl := hs.2.2 k (by simp only [rowK, hid]); obtain ⟨A, c, e1, _⟩ := KS.now (hr.blk _ _ hid); rw [(List.cons.inj e1).1]; exact run_len_slice' ((ok.at hi).slice hd)
  · rename_i i hi
    split at hl <;> try (cases hl; done)
    rename_i hd
    obtain rfl := Option.some.inj hl; rw [show v = _ from hs]; exact run_len_slice' ((ok.at hi).slice hd)
  · rename_i i l hi
    split at hl <;> try (cases hl; done)
    rename_i m _ hd
    obtain rfl := Option.some.inj hl; obtain ⟨us, rfl, _⟩ := hs; simp [Builtin.len_, run_underlying ((ok.at hi).arr hd), goInt]
def intsOf : List S → Option (List (IntKind × Int))
  | [] => some []
  | .one (.int k n) :: r => (intsOf r).map ((k, n) :: ·)
  | _ => none
theorem intsOf_ok : ∀ (l : List S) {ns : List (IntKind × Int)} {vs : List Value}, intsOf l = some ns → All2 (SR U ρ h w) l vs → vs = ns.map fun p => .int p.1 p.2
  | [], ns, vs, hc, ha => by
    obtain rfl := Option.some.inj hc
    rw [ha.left_nil]; rfl
  | s :: r, ns, vs, hc, ha => by
    obtain ⟨v, vs', rfl, hs, ht⟩ := ha.left_cons; unfold intsOf at hc; split at hc <;> try (cases hc; done)
    · rename_i heq; cases heq
    · rename_i k n _ heq
      injection heq with e1 e2
      subst e1 e2
      cases hq : intsOf r with
      | none => rw [hq] at hc; cases hc
      | some l =>
        rw [hq] at hc; obtain rfl := Option.some.inj hc; rw [intsOf_ok r hq ht, show v = _ from hs]; rfl
theorem run_max : ∀ (l : List (IntKind × Int)) (k : IntKind) (x : Int), ((l.map fun p : IntKind × Int => Value.int p.1 p.2).foldlM Builtin.max2 (.int k x)).run P w = .ok (.int k ((l.map Prod.snd).foldl max x)) w
  | [], k, x => by simp
  | (k', y) :: r, k, x => by
    have ih := run_max r k (max x y)
    have : (Builtin.max2 (.int k x) (.int k' y)).run P w = .ok (.int k (max x y)) w := by
      simp only [Builtin.max2, Sem.run_pure]; congr 2; omega
    simp only [List.map_cons, List.foldlM_cons, Sem.run_bind, this, Result.andThen_ok, ih, List.foldl_cons]
theorem run_min : ∀ (l : List (IntKind × Int)) (k : IntKind) (x : Int), ((l.map fun p : IntKind × Int => Value.int p.1 p.2).foldlM Builtin.min2 (.int k x)).run P w = .ok (.int k ((l.map Prod.snd).foldl min x)) w
  | [], k, x => by simp
  | (k', y) :: r, k, x => by
    have ih := run_min r k (min x y)
    have : (Builtin.min2 (.int k x) (.int k' y)).run P w = .ok (.int k (min x y)) w := by
      simp only [Builtin.min2, Sem.run_pure]; congr 2; omega
    simp only [List.map_cons, List.foldlM_cons, Sem.run_bind, this, Result.andThen_ok, ih, List.foldl_cons]
end
end Go.Den
end
section
-- the texts that this claim needs, out of this session's and its print's (wip/shrink.py)
namespace Go.Den
open Go Go.RowKit
section
variable {P : Program} {U U1 : Nat → Prop} {ρ ρ1 : Nat → Value} {h h1 : List Blk} {w w1 : World}
theorem Lie.take {α : Type} {R : α → List Value → Prop} {sz n : Nat} {xs : List α} {cs : List Value} (hl : Lie R sz xs cs) (hn : n ≤ xs.length) : Lie R sz (xs.take n) (cs.take (n * sz)) := by
  refine ⟨?_, fun j p hj => ?_⟩
  · have : n * sz ≤ cs.length := by rw [hl.1]; exact Nat.mul_le_mul_right _ hn
    rw [List.length_take, List.length_take, Nat.min_eq_left this, Nat.min_eq_left hn]
  · rw [List.getElem?_take] at hj; split at hj <;> try (cases hj; done)
    rename_i hjn
    have := hl.2 j p hj; have h1 : (j + 1) * sz ≤ n * sz := Nat.mul_le_mul_right _ hjn; rw [Nat.succ_mul] at h1; rw [List.drop_take, List.take_take, Nat.min_eq_left (by omega)]; exact this
def truncR (tb : Tb) (t : Nat) (x hi : S) (h : List Blk) : Option (S × List Blk × Prop) :=
  match Tb.at tb t with
  | some i => match i.d with
    | .slice e => match Tb.at tb e with
      | some j => match x, hi with
        | .one (.own id), .one (.int _ n) => match h[id]? with
          | some (.row e' k xs) => match nb e' e, nb k.sz j.sz with
            | true, true => some (.one (.own h.length), h.set id .dead ++ [.row e k (xs.take n.toNat)], 0 ≤ n ∧ n ≤ xs.length)
            | _, _ => none
          | _ => none
        | _, _ => none
      | none => none
    | _ => none
  | none => none
theorem truncR_ok {tb : Tb} {t : Nat} {x hi s1 : S} {p : Prop} {v vhi : Value} (ok : TbOk P tb) (hl : truncR tb t x hi h = some (s1, h1, p)) (hp : p) (hr : HR U ρ h w) (hx : SR U ρ h w x v) (hhi : SR U ρ h w hi vhi) : ValOk P U ρ h w (Instr.sliceAt t v none (some vhi) none) s1 h1 := by
  unfold truncR at hl; split at hl <;> try (cases hl; done)
  rename_i i hi'
  split at hl <;> try (cases hl; done)
  rename_i e hd
  split at hl <;> try (cases hl; done)
  rename_i j hj
  split at hl <;> try (cases hl; done)
  rename_i id kk n
  split at hl <;> try (cases hl; done)
  rename_i e' k xs hid
  split at hl <;> try (cases hl; done)
  rename_i he hks
  obtain ⟨rfl, h2⟩ := (Prod.mk.injEq ..).mp (Option.some.inj hl); obtain ⟨rfl, rfl⟩ := (Prod.mk.injEq ..).mp h2; obtain rfl := nb_eq he; have hks' := nb_eq hks; obtain rfl := hx.2.2 k (rowK_row hid); obtain rfl : vhi = .int kk n := hhi; obtain ⟨cs, h1, h2⟩ := hr.blk _ _ hid; have hn : n.toNat ≤ xs.length := by have := hp.2; omega
  have hlen : (xs.take n.toNat).length = n.toNat := by rw [List.length_take]; omega
  have hu := (ok.at hi').slice hd
  have key : ∃ v', (Instr.sliceAt t (ρ id) none (some (.int kk n)) none).run P w = .ok v' w ∧ v'.ownBlock = (ρ id).ownBlock ∧ w.ownsRow 0 e' k.sz v' n.toNat (cs.take (n.toNat * k.sz)) ∧ v'.oneCell' = true := by
    rcases h1.2 with ⟨e1, h0⟩ | ⟨g, cap, cur, e1, h3, h4, h5, h6, h7, h8⟩
    · have hn0 : n = 0 := by have := hp.1; have := hp.2; omega
      subst hn0; have hb := run_bounds (P := P) (w := w) (len := 0) (cap := 0) (vlo := none) (vhi := some (.int kk 0)) (l := 0) (r := 0) true (.inl ⟨rfl, rfl⟩) (.inr ⟨kk, rfl⟩) (by omega) (Nat.le_refl _); refine ⟨.slice none 0 0, ?_, by rw [e1], ?_, rfl⟩
      · rw [e1]; simp [Instr.sliceAt, Instr.slice, run_underlying hu, hb, (ok.at hj).sizeOf w]
      · exact ⟨by simp, .inl ⟨rfl, rfl⟩⟩
    · have hb := run_bounds (P := P) (w := w) (len := xs.length) (cap := cap) (vlo := none) (vhi := some (.int kk n)) (l := 0) (r := n) true (.inl ⟨rfl, rfl⟩) (.inr ⟨kk, rfl⟩) ⟨by omega, hp.1, hp.2⟩ h5; refine ⟨.slice (some ⟨g, 0, none⟩) n.toNat cap, ?_, by rw [e1]; rfl, ⟨?_, .inr ⟨g, cap, cur, rfl, h3, h4, by omega, h6, h7, ?_⟩⟩, rfl⟩
      · rw [e1]; have hz : (⟨g, 0, none⟩ : Addr).add (0 * j.sz) = ⟨g, 0, none⟩ := by rw [Nat.zero_mul, Addr.add_lit]
        have hb' : (Instr.sliceBounds true xs.length cap none (some (.int kk n)) none).run P w = .ok (0, n.toNat, cap) w := hb; simp [Instr.sliceAt, Instr.slice, run_underlying hu, hb', (ok.at hj).sizeOf w, Addr.add_lit]
      · rw [List.length_take, h1.1, Nat.min_eq_left (Nat.mul_le_mul_right _ hn)]
      · rw [← h8, List.take_take, Nat.min_eq_left (Nat.mul_le_mul_right _ hn)]
  obtain ⟨v', r1, r2, r3, r4⟩ := key; refine ⟨v', w, _, _, r1, Go1.renew hr hid ⟨rfl, rfl, rfl, Nat.le_refl _, fun _ _ _ => rfl⟩ (.inl r2) (by rw [hlen]; exact r3) (fun U1 tr => ?_), ?_⟩
  · exact (h2.imp fun _ _ hc => hc.tr tr).take hn
  · exact ⟨r4, by simp, fun _ _ => (upd_at _ _ _).symm⟩
def slR (tb : Tb) (ow : Bool) (t : Nat) (sx : S) (lo hi : Option S) (h : List Blk) : Option (S × List Blk × Prop) := match ow, lo, hi, sx with
  | true, none, some y, .one (.own id) => truncR tb t (.one (.own id)) y h
  | _, lo, hi, sx => sliceR tb t sx lo hi h
theorem slR_ok {tb : Tb} {ow : Bool} {t : Nat} {x s1 : S} {lo hi : Option S} {p : Prop} {v : Value} {vlo vhi : Option Value} (ok : TbOk P tb) (hl : slR tb ow t x lo hi h = some (s1, h1, p)) (hp : p) (hr : HR U ρ h w) (hx : SR U ρ h w x v)
    (hlo : OptR U ρ h w lo vlo) (hhi : OptR U ρ h w hi vhi) : ValOk P U ρ h w (Instr.sliceAt t v vlo vhi none) s1 h1 := by
  unfold slR at hl; split at hl
  · rename_i y id
    cases vlo with
    | some _ => exact hlo.elim
    | none => cases vhi with
      | none => exact hhi.elim
      | some vhi => exact truncR_ok ok hl hp hr hx hhi
  · exact sliceR_ok ok hl hp hr hx hlo hhi
end
end Go.Den
end
section
-- the texts that this claim needs, out of this session's and its print's (wip/shrink.py)
namespace Go.Den
open Go Go.RowKit
section
variable {P : Program} {U U1 : Nat → Prop} {ρ ρ1 : Nat → Value} {h h1 : List Blk} {w w1 : World}
def core : S → S
  | .grd _ s => s
  | s => s
def grdOf : S → Bool
  | .grd b _ => b
  | _ => true
def pickR (c a b : S) : Option (S × Prop) := match core c, core a, core b with
  | .one (.bool x), .one (.bool y), .one (.bool z) => some (.one (.bool (bif x then y else z)), (x = true → grdOf a = true) ∧ (x = false → grdOf b = true))
  | .one (.bool x), .one (.int k y), .one (.int k' z) => match decide (k = k') with
    | true => some (.one (.int k (bif x then y else z)), (x = true → grdOf a = true) ∧ (x = false → grdOf b = true))
    | false => none
  | _, _, _ => none
theorem core_ok {s : S} {v : Value} (hs : SR U ρ h w s v) (hg : grdOf s = true) : SR U ρ h w (core s) v := by
  cases s with
  | grd b s => exact hs.1 hg
  | _ => exact hs
theorem pickR_ok {c a b s1 : S} {p : Prop} {vc va vb : Value} (hp : pickR c a b = some (s1, p)) (hpp : p) (hc : SR U ρ h w (core c) vc) (ha : SR U ρ h w a va) (hb : SR U ρ h w b vb) (hr : HR U ρ h w) : ValOk P U ρ h w (do pure (if ← asBool vc then va else vb)) s1 h := by
  unfold pickR at hp; split at hp <;> try (cases hp; done)
  · rename_i x y z e1 e2 e3
    obtain ⟨rfl, rfl⟩ := (Prod.mk.injEq ..).mp (Option.some.inj hp); rw [e1] at hc; rw [show vc = _ from hc]; refine ValOk.pure hr (v := if x = true then va else vb) (by simp [asBool]) ?_
    cases x with
    | true => have := core_ok ha (hpp.1 rfl); rw [e2] at this; exact this
    | false => have := core_ok hb (hpp.2 rfl); rw [e3] at this; exact this
  · rename_i x k y k' z e1 e2 e3
    split at hp <;> try (cases hp; done)
    rename_i hk
    obtain rfl := of_decide_eq_true hk; obtain ⟨rfl, rfl⟩ := (Prod.mk.injEq ..).mp (Option.some.inj hp); rw [e1] at hc; rw [show vc = _ from hc]; refine ValOk.pure hr (v := if x = true then va else vb) (by simp [asBool]) ?_
    cases x with
    | true => have := core_ok ha (hpp.1 rfl); rw [e2] at this; exact this
    | false => have := core_ok hb (hpp.2 rfl); rw [e3] at this; exact this
theorem TOk.bool {t : Nat} {i : TI} (h : TOk P t i) (hd : i.d = .bool) : P.underlying t = some .bool := by
  have := h.und
  cases hu : P.underlying t with
  | none => rw [hu] at this; cases this
  | some d =>
    rw [hu, hd] at this; have h2 := Option.some.inj this
    cases d <;> simp only [tdOf, reduceCtorEq] at h2
    rfl
def boolR (tb : Tb) (op : BinOp) (t : Nat) (a b : Bool) : Option Bool := match Tb.at tb t with
  | some i => match i.d, op with
    | .bool, .eql => some (a == b)
    | .bool, .neq => some (a != b)
    | _, _ => none
  | none => none
theorem run_eq_bool {t : TypeId} (hu : P.underlying t = some .bool) (a b : Bool) : (Op.equal t (.bool a) (.bool b)).run P w = .ok (a == b) w := by
  show (Op.equalIn (9999 + 1) t (.bool a) (.bool b)).run P w = _; unfold Op.equalIn; simp [run_underlying hu]
theorem boolR_ok {tb : Tb} {op : BinOp} {t : Nat} {a b r : Bool} {x y : Value} (ok : TbOk P tb) (hr : boolR tb op t a b = some r) (hx : SR U ρ h w (.one (.bool a)) x) (hy : SR U ρ h w (.one (.bool b)) y) (ox oy : Operand) :
    (do eqGuard op t ox oy x y; Go.binOp op t x y : Sem Value).run P w = .ok (.bool r) w := by
  obtain rfl : x = .bool a := hx; obtain rfl : y = .bool b := hy; unfold boolR at hr; split at hr <;> try (cases hr; done)
  rename_i i hi
  split at hr <;> try (cases hr; done)
  · rename_i hd
    obtain rfl := Option.some.inj hr; simp [eqGuard, Go.binOp, run_eq_bool ((ok.at hi).bool hd)]
  · rename_i hd
    obtain rfl := Option.some.inj hr; simp [eqGuard, Go.binOp, run_eq_bool ((ok.at hi).bool hd)]
    cases a <;> cases b <;> rfl
def builtinR (tb : Tb) (b : Builtin) (ts : List Nat) (xs : List S) (h : List Blk) : Option (S × List Blk × Prop) := match b, ts, xs with
  | .len, [t], [x] => match lenR tb t x h with
    | some n => some (.one (.int .i64 n), h, True)
    | none => none
  | .append, [t, t'], [s, x] => match nb t t' with
    | true => appendR tb t s x h
    | false => none
  | .max, _, x :: xs => match intsOf (x :: xs) with
    | some ((k, n) :: r) => some (.one (.int k ((r.map Prod.snd).foldl max n)), h, True)
    | _ => none
  | .min, _, x :: xs => match intsOf (x :: xs) with
    | some ((k, n) :: r) => some (.one (.int k ((r.map Prod.snd).foldl min n)), h, True)
    | _ => none
  | _, _, _ => none
def opR (tb : Tb) (ow : Bool) (o : Oper) (g : Operand → S) (h : List Blk) : Option (S × List Blk × Prop) := match o.op with
  | .move x => some (core (g x), h, True)
  | .assign x => (asgR tb o.type (core (g x)) h).map fun p => (p.1, p.2, True)
  | .pick c a b => (pickR (g c) (g a) (g b)).map fun p => (p.1, h, p.2)
  | .alloc t => (allocR tb t h).map fun p => (p.1, p.2, True)
  | .box t x => (cellsOf (core (g x))).map fun l => (.one (.ptr h.length 0), h ++ [.box t l], True)
  | .build t ps => (buildR tb t (ps.toList.map fun p => (p.1, core (g p.2))) h).map fun p => (p.1, p.2, True)
  | .buildSlice t n ps => (buildSliceR tb ow t n (ps.toList.map fun p => (p.1, core (g p.2))) h).map fun p => (p.1, p.2, True)
  | .load t a => loadR tb t (core (g a)) h
  | .store t a x => (storeR tb t (core (g a)) (core (g x)) h).map fun p => (.undef, p.1, p.2)
  | .nilCheck x => match isAddr h (core (g x)) with
    | true => some (core (g x), h, True)
    | false => none
  | .binOp op t x y _ => match core (g x), core (g y) with
    | .agg a, .agg b => (eqR tb op t a b).map fun r => (.one (.bool r), h, True)
    | .one (.bool a), .one (.bool b) => (boolR tb op t a b).map fun r => (.one (.bool r), h, True)
    | sx, sy => (binR op sx sy).map fun p => (p.1, h, p.2)
  | .unOp op _ x => (unR op (core (g x))).map fun s => (s, h, True)
  | .convert src dst x => (convR tb src dst (core (g x))).map fun s => (s, h, True)
  | .makeFunc (.func f) first caps => match first.toList with
    | [] => (capsR h (caps.toList.map fun x => core (g x))).map fun ids => (.one (.fn f ids), h, True)
    | _ => none
  | .makeSlice t l c => makeR tb t (core (g l)) (core (g c)) h
  | .slice t x lo hi none => slR tb ow t (core (g x)) (lo.map fun x => core (g x)) (hi.map fun x => core (g x)) h
  | .fieldAddr t x i => (fieldR tb t (core (g x)) i h).map fun s => (s, h, True)
  | .field t x i => (fieldVR tb t (core (g x)) i).map fun s => (s, h, True)
  | .indexAddr t x i => match core (g i) with
    | .one (.int _ n) => (indexR tb t (core (g x)) n h).map fun p => (p.1, h, p.2)
    | _ => none
  | .index t x i => match core (g i) with
    | .one (.int _ n) => (anyIndexR tb t (core (g x)) n).map fun p => (p.1, h, p.2)
    | _ => none
  | .extract x i => (extractR (core (g x)) i).map fun s => (s, h, True)
  | .call { callee := .builtin b, args, argTypes } => builtinR tb b argTypes.toList (args.toList.map fun x => core (g x)) h
  | _ => none
theorem map_some {α β : Type} {o : Option α} {f : α → β} {b : β} (h : o.map f = some b) : ∃ a, o = some a ∧ f a = b := Option.map_eq_some_iff.1 h
theorem All2.of_fun {f : Operand → S} {e : Operand → Value} : ∀ (l : List Operand), (∀ x ∈ l, SR U ρ h w (f x) (e x)) → All2 (SR U ρ h w) (l.map f) (l.map e)
  | [], _ => All2.nil
  | x :: r, hf => All2.cons (hf x (by simp)) (All2.of_fun r (fun y hy => hf y (by simp [hy])))
theorem PartsR.of_fun {f : Operand → S} {e : Operand → Value} : ∀ (l : List (Nat × Operand)), (∀ p ∈ l, SR U ρ h w (f p.2) (e p.2)) → PartsR U ρ h w (l.map fun p => (p.1, f p.2)) (l.map fun p => (p.1, e p.2))
  | [], _ => All2.nil
  | x :: r, hf => All2.cons ⟨rfl, hf x (by simp)⟩ (PartsR.of_fun r (fun y hy => hf y (by simp [hy])))
theorem OptR.of_fun {f : Operand → S} {e : Operand → Value} : ∀ (o : Option Operand), (∀ x ∈ o, SR U ρ h w (f x) (e x)) → OptR U ρ h w (o.map f) (o.map e)
  | none, _ => trivial
  | some x, hf => hf x rfl
def gps (g : Operand → S) : List Operand → Prop
  | [] => True
  | x :: r => match g x with
    | .grd b _ => b = true ∧ gps g r
    | _ => gps g r
theorem gps_ok {g : Operand → S} {ev : Operand → Value} (hg : ∀ x, SR U ρ h w (g x) (ev x)) : ∀ (l : List Operand), gps g l → ∀ x ∈ l, SR U ρ h w (core (g x)) (ev x)
  | [], _, x, hx => by cases hx
  | y :: r, hp, x, hx => by
    have hr : gps g r ∧ grdOf (g y) = true := by
      unfold gps at hp; split at hp
      · rename_i b s hb; exact ⟨hp.2, by rw [hb]; exact hp.1⟩
      · rename_i hn
        refine ⟨hp, ?_⟩
        cases hgy : g y with
        | grd b s => exact absurd hgy (hn b s)
        | _ => rfl
    rcases List.mem_cons.1 hx with rfl | hx
    · exact core_ok (hg x) hr.2
    · exact gps_ok hg r hr.1 x hx
def oL : Option Operand → List Operand
  | none => []
  | some x => [x]
def opnds (o : Op) : List Operand := match o with
  | .build _ ps => ps.toList.map Prod.snd
  | .buildSlice _ _ ps => ps.toList.map Prod.snd
  | .makeFunc _ first caps => first.toList ++ caps.toList
  | .slice _ x l h m => x :: (oL l ++ oL h ++ oL m)
  | .call c => match c.callee with
    | .value f => f :: c.args.toList
    | .invoke r _ => r :: c.args.toList
    | .builtin _ => c.args.toList
  | o => o.operands.toList
theorem opnds_eq (o : Op) : opnds o = o.operands.toList := by
  unfold opnds; split
  · simp [Op.operands]
  · simp [Op.operands]
  · simp [Op.operands]
  · rename_i l h m
    cases l <;> cases h <;> cases m <;> simp [Op.operands, oL]
  · rename_i c
    split <;> (rename_i hc; simp [Op.operands, Call.operands, hc])
  · rfl
def opGps (o : Op) (g : Operand → S) : Prop := match o with
  | .pick c _ _ => gps g [c]
  | o => gps g (opnds o)
theorem opGps_all {o : Op} {g : Operand → S} (h : opGps o g) (hn : ∀ c a b, o ≠ .pick c a b) : gps g o.operands.toList := by
  rw [← opnds_eq]
  cases o <;> first | exact h | exact absurd rfl (hn _ _ _)
set_option maxHeartbeats 4000000 in
theorem opR_ok {tb : Tb} {ow : Bool} {o : Oper} {g : Operand → S} {ev : Operand → Value} {s1 : S} {p : Prop} (ok : TbOk P tb) (ho : opR tb ow o g h = some (s1, h1, p)) (hp : p) (hr : HR U ρ h w) (hg : ∀ x, SR U ρ h w (g x) (ev x)) (hgp : opGps o.op g) :
    OpOk P U ρ h w (execOp ev o) s1 h1 := by
  obtain ⟨dst, op, type, pos, after, guard⟩ := o; have hall : (∀ c a b, op ≠ .pick c a b) → ∀ x ∈ op.operands.toList, SR U ρ h w (core (g x)) (ev x) := fun hn => gps_ok hg _ (opGps_all hgp hn); unfold opR at ho
  cases op <;> simp only [] at ho <;> try (cases ho; done)
  case move x =>
    have hx := hall (by simp) x (by simp [Op.operands]); obtain ⟨rfl, h2⟩ := (Prod.mk.injEq ..).mp (Option.some.inj ho); obtain ⟨rfl, rfl⟩ := (Prod.mk.injEq ..).mp h2; exact ⟨ev x, w, U, ρ, .inl rfl, Go1.refl hr, hx⟩
  case assign x =>
    have hx := hall (by simp) x (by simp [Op.operands]); obtain ⟨q, hq, he⟩ := map_some ho; obtain ⟨rfl, h2⟩ := (Prod.mk.injEq ..).mp he; obtain ⟨rfl, rfl⟩ := (Prod.mk.injEq ..).mp h2; exact (asgR_ok (P := P) (e := Pure.pure (ev x)) hq hr hx rfl).op
  case pick c a b =>
    obtain ⟨q, hq, he⟩ := map_some ho; obtain ⟨rfl, h2⟩ := (Prod.mk.injEq ..).mp he; obtain ⟨rfl, rfl⟩ := (Prod.mk.injEq ..).mp h2; obtain ⟨v, w1, U1, ρ1, h1, h2, h3⟩ := pickR_ok (P := P) hq hp (gps_ok hg [c] hgp c (by simp)) (hg a) (hg b) hr; refine ⟨v, w1, U1, ρ1, .inl ?_, h2, h3⟩; simp only [Sem.run_bind, Sem.run_pure] at h1 ⊢; unfold execOp; simp only [Sem.run_bind, Sem.run_pure]
    cases hb : (asBool (ev c)).run P w with
    | ok b0 w0 =>
      rw [hb] at h1; simp only [Result.andThen_ok] at h1 ⊢; injection h1 with h1 h1'
      rw [h1, h1']
    | halt e w0 => rw [hb] at h1; cases h1
  case alloc t =>
    obtain ⟨q, hq, he⟩ := map_some ho; obtain ⟨rfl, h2⟩ := (Prod.mk.injEq ..).mp he; obtain ⟨rfl, rfl⟩ := (Prod.mk.injEq ..).mp h2; exact (allocR_ok ok hq hr).op
  case box t x =>
    have hx := hall (by simp) x (by simp [Op.operands]); obtain ⟨q, hq, he⟩ := map_some ho; obtain ⟨rfl, h2⟩ := (Prod.mk.injEq ..).mp he; obtain ⟨rfl, rfl⟩ := (Prod.mk.injEq ..).mp h2; exact (box_ok hr (cellsOf_ok hq hx)).op
  case build t ps =>
    obtain ⟨q, hq, he⟩ := map_some ho; obtain ⟨rfl, h2⟩ := (Prod.mk.injEq ..).mp he; obtain ⟨rfl, rfl⟩ := (Prod.mk.injEq ..).mp h2; refine (buildR_ok (vs := ps.map fun p => (p.1, ev p.2)) ok hq hr ?_).op; rw [Array.toList_map]; exact PartsR.of_fun (f := fun x => core (g x)) ps.toList fun p hp' => hall (by simp) p.2 (by simp only [Op.operands]; simp; exact ⟨p.1, by simpa using hp'⟩)
  case buildSlice t n ps =>
    obtain ⟨q, hq, he⟩ := map_some ho; obtain ⟨rfl, h2⟩ := (Prod.mk.injEq ..).mp he; obtain ⟨rfl, rfl⟩ := (Prod.mk.injEq ..).mp h2; refine (buildSliceR_ok (vs := ps.map fun p => (p.1, ev p.2)) ok hq hr ?_).op; rw [Array.toList_map]; exact PartsR.of_fun (f := fun x => core (g x)) ps.toList fun p hp' => hall (by simp) p.2 (by simp only [Op.operands]; simp; exact ⟨p.1, by simpa using hp'⟩)
  case load t a =>
    have hx := hall (by simp) a (by simp [Op.operands]); exact (loadR_ok ok ho hp hr hx).op
  case store t a x =>
    have ha := hall (by simp) a (by simp [Op.operands]); have hx := hall (by simp) x (by simp [Op.operands]); obtain ⟨q, hq, he⟩ := map_some ho; obtain ⟨rfl, h2⟩ := (Prod.mk.injEq ..).mp he; obtain ⟨rfl, rfl⟩ := (Prod.mk.injEq ..).mp h2; exact (storeR_ok ok hq hp hr ha hx).op
  case nilCheck x =>
    have hx := hall (by simp) x (by simp [Op.operands]); split at ho <;> try (cases ho; done)
    rename_i ha
    obtain ⟨rfl, h2⟩ := (Prod.mk.injEq ..).mp (Option.some.inj ho); obtain ⟨rfl, rfl⟩ := (Prod.mk.injEq ..).mp h2; obtain ⟨ad, had⟩ := isAddr_ok ha hx; refine ⟨ev x, w, U, ρ, .inl ?_, Go1.refl hr, hx⟩; unfold execOp; simp only [had]; rfl
  case binOp op xt x y yt =>
    have hx := hall (by simp) x (by simp [Op.operands]); have hy := hall (by simp) y (by simp [Op.operands]); split at ho
    · rename_i la lb ea eb
      obtain ⟨q, hq, he⟩ := map_some ho; obtain ⟨rfl, h2⟩ := (Prod.mk.injEq ..).mp he; obtain ⟨rfl, rfl⟩ := (Prod.mk.injEq ..).mp h2; rw [ea] at hx; rw [eb] at hy; have h1 := eqR_ok (P := P) ok hq hx hy x y; exact (ValOk.pure (s := .one (.bool q)) hr h1 rfl).op
    · rename_i la lb ea eb
      obtain ⟨q, hq, he⟩ := map_some ho; obtain ⟨rfl, h2⟩ := (Prod.mk.injEq ..).mp he; obtain ⟨rfl, rfl⟩ := (Prod.mk.injEq ..).mp h2; rw [ea] at hx; rw [eb] at hy; have h1 := boolR_ok (P := P) ok hq hx hy x y; exact (ValOk.pure (s := .one (.bool q)) hr h1 rfl).op
    · obtain ⟨q, hq, he⟩ := map_some ho; obtain ⟨rfl, h2⟩ := (Prod.mk.injEq ..).mp he; obtain ⟨rfl, rfl⟩ := (Prod.mk.injEq ..).mp h2; obtain ⟨v, h1, h2⟩ := binR_ok (P := P) hq hp hx hy xt x y; exact (ValOk.pure hr h1 h2).op
  case unOp op xt x =>
    have hx := hall (by simp) x (by simp [Op.operands]); obtain ⟨q, hq, he⟩ := map_some ho; obtain ⟨rfl, h2⟩ := (Prod.mk.injEq ..).mp he; obtain ⟨rfl, rfl⟩ := (Prod.mk.injEq ..).mp h2; exact (unR_ok hq hr hx).op
  case convert src d x =>
    have hx := hall (by simp) x (by simp [Op.operands]); obtain ⟨q, hq, he⟩ := map_some ho; obtain ⟨rfl, h2⟩ := (Prod.mk.injEq ..).mp he; obtain ⟨rfl, rfl⟩ := (Prod.mk.injEq ..).mp h2; exact (convR_ok ok hq hr hx).op
  case makeFunc fn first caps =>
    cases fn <;> simp only [] at ho <;> try (cases ho; done)
    rename_i f
    split at ho <;> try (cases ho; done)
    rename_i hf
    obtain ⟨q, hq, he⟩ := map_some ho; obtain ⟨rfl, h2⟩ := (Prod.mk.injEq ..).mp he; obtain ⟨rfl, rfl⟩ := (Prod.mk.injEq ..).mp h2; have hf' : first = #[] := by apply Array.toList_inj.1; simpa using hf
    subst hf'; have hcap := capsR_ok (ρ := ρ) _ hq hr (All2.of_fun (f := fun x => core (g x)) (e := ev) caps.toList fun x hx => hall (by simp) x (by simpa [Op.operands] using hx)); refine (ValOk.pure (s := .one (.fn f q)) (v := .func (.func f) #[] (caps.map ev)) hr ?_ ⟨_, rfl, by rw [Array.toList_map]; exact hcap⟩).op; simp [Instr.makeFunc]
  case makeSlice t l c =>
    have hl := hall (by simp) l (by simp [Op.operands]); have hc := hall (by simp) c (by simp [Op.operands]); exact (makeR_ok ok ho hp hr hl hc).op
  case slice t x lo hi mx =>
    cases mx with
    | some _ => cases ho
    | none =>
      have hx := hall (by simp) x (by simp [Op.operands]); exact (slR_ok ok ho hp hr hx (OptR.of_fun (f := fun x => core (g x)) lo fun y hy => hall (by simp) y (by simp [Op.operands]; right; left; simpa using hy)) (OptR.of_fun (f := fun x => core (g x)) hi fun y hy => hall (by simp) y (by simp [Op.operands]; right; right; simpa using hy))).op
  case fieldAddr t x i =>
    have hx := hall (by simp) x (by simp [Op.operands]); obtain ⟨q, hq, he⟩ := map_some ho; obtain ⟨rfl, h2⟩ := (Prod.mk.injEq ..).mp he; obtain ⟨rfl, rfl⟩ := (Prod.mk.injEq ..).mp h2; exact (fieldR_ok ok hq hr hx).op
  case field t x i =>
    have hx := hall (by simp) x (by simp [Op.operands]); obtain ⟨q, hq, he⟩ := map_some ho; obtain ⟨rfl, h2⟩ := (Prod.mk.injEq ..).mp he; obtain ⟨rfl, rfl⟩ := (Prod.mk.injEq ..).mp h2; exact (fieldVR_ok ok hq hr hx).op
  case indexAddr t x i =>
    have hx := hall (by simp) x (by simp [Op.operands]); have hi := hall (by simp) i (by simp [Op.operands]); split at ho <;> try (cases ho; done)
    rename_i kk n hn
    obtain ⟨q, hq, he⟩ := map_some ho; obtain ⟨rfl, h2⟩ := (Prod.mk.injEq ..).mp he; obtain ⟨rfl, rfl⟩ := (Prod.mk.injEq ..).mp h2; rw [hn] at hi; have this := (indexR_ok (P := P) ok hq hp hr hx kk).op; rw [← (show ev i = .int kk n from hi)] at this; exact this
  case index t x i =>
    have hx := hall (by simp) x (by simp [Op.operands]); have hi := hall (by simp) i (by simp [Op.operands]); split at ho <;> try (cases ho; done)
    rename_i kk n hn
    obtain ⟨q, hq, he⟩ := map_some ho; obtain ⟨rfl, h2⟩ := (Prod.mk.injEq ..).mp he; obtain ⟨rfl, rfl⟩ := (Prod.mk.injEq ..).mp h2; rw [hn] at hi; have this := (anyIndexR_ok (P := P) ok hq hp hr hx kk).op; rw [← (show ev i = .int kk n from hi)] at this; exact this
  case extract x i =>
    have hx := hall (by simp) x (by simp [Op.operands]); obtain ⟨q, hq, he⟩ := map_some ho; obtain ⟨rfl, h2⟩ := (Prod.mk.injEq ..).mp he; obtain ⟨rfl, rfl⟩ := (Prod.mk.injEq ..).mp h2; exact (extractR_ok hq hr hx).op
  case call c =>
    obtain ⟨callee, args, ats⟩ := c
    cases callee <;> simp only [] at ho <;> try (cases ho; done)
    rename_i b
    have hxs := All2.of_fun (f := fun x => core (g x)) (e := ev) args.toList fun x hx => hall (by simp) x (by simpa [Op.operands, Call.operands] using hx); unfold builtinR at ho; split at ho <;> try (cases ho; done)
    · rename_i t x e1 e2
      split at ho <;> try (cases ho; done)
      rename_i n hn
      obtain ⟨rfl, h2⟩ := (Prod.mk.injEq ..).mp (Option.some.inj ho); obtain ⟨rfl, rfl⟩ := (Prod.mk.injEq ..).mp h2; rw [e2] at hxs; obtain ⟨v, vs', hv, hxr, ht⟩ := hxs.left_cons; have := ht.left_nil; subst this; have hv' : args.map ev = #[v] := by apply Array.toList_inj.1; rw [Array.toList_map]; exact hv
      have hats : ats = #[t] := by apply Array.toList_inj.1; exact e1
      subst hats; refine ⟨_, w, U, ρ, .inl ?_, Go1.refl hr, rfl⟩; have := lenR_ok (P := P) (ty := type) ok hn hr hxr; simp [execOp, resolve, invoke, builtin, hv', this]
    · rename_i t t' s x e1 e2
      split at ho <;> try (cases ho; done)
      rename_i ht'
      obtain rfl := nb_eq ht'; rw [e2] at hxs; obtain ⟨v, vs', hv, hxr, ht⟩ := hxs.left_cons; obtain ⟨v2, vs2, hv2, hxr2, ht2⟩ := ht.left_cons; have := ht2.left_nil; subst this; subst hv2; have hv' : args.map ev = #[v, v2] := by apply Array.toList_inj.1; rw [Array.toList_map]; exact hv
      have hats : ats = #[t, t] := by apply Array.toList_inj.1; exact e1
      subst hats; have := (appendR_ok (P := P) ok ho hp hr hxr hxr2 type).op; obtain ⟨v1, w1, U1, ρ1, h1, h2, h3⟩ := appendR_ok (P := P) ok ho hp hr hxr hxr2 type; refine ⟨v1, w1, U1, ρ1, .inl ?_, h2, h3⟩; simp [execOp, resolve, invoke, builtin, hv', h1]
    · rename_i ts x xs e2
      split at ho <;> try (cases ho; done)
      rename_i k n r hn
      obtain ⟨rfl, h2⟩ := (Prod.mk.injEq ..).mp (Option.some.inj ho); obtain ⟨rfl, rfl⟩ := (Prod.mk.injEq ..).mp h2; rw [e2] at hxs; have hv := intsOf_ok _ hn hxs; refine ⟨_, w, U, ρ, .inl ?_, Go1.refl hr, rfl⟩; have hv' : (args.map ev).toList = .int k n :: r.map fun p => .int p.1 p.2 := by rw [Array.toList_map]; exact hv
      have := run_max (P := P) (w := w) r k n; simp only [execOp, resolve, invoke, builtin, Sem.run_bind, Sem.run_pure, Result.andThen_ok, Builtin.max_, hv', this]
    · rename_i ts x xs e2
      split at ho <;> try (cases ho; done)
      rename_i k n r hn
      obtain ⟨rfl, h2⟩ := (Prod.mk.injEq ..).mp (Option.some.inj ho); obtain ⟨rfl, rfl⟩ := (Prod.mk.injEq ..).mp h2; rw [e2] at hxs; have hv := intsOf_ok _ hn hxs; refine ⟨_, w, U, ρ, .inl ?_, Go1.refl hr, rfl⟩; have hv' : (args.map ev).toList = .int k n :: r.map fun p => .int p.1 p.2 := by rw [Array.toList_map]; exact hv
      have := run_min (P := P) (w := w) r k n; simp only [execOp, resolve, invoke, builtin, Sem.run_bind, Sem.run_pure, Result.andThen_ok, Builtin.min_, hv', this]
end
attribute [simp] boolR
end Go.Den
end
section
-- the texts that this claim needs, out of this session's and its print's (wip/shrink.py)
namespace Go.Den
open Go Go.RowKit
def Enters (P : Program) (f : FuncId) : Prop := ∃ fn c, P.funcs[f]? = some fn ∧ (fn.name == "runtime.NumGoroutine") = false ∧ fn.body = some c
structure CallStep (P : Program) (f : FuncId) (xs : List S) (h : List Blk) (s : S) (h1 : List Blk) : Prop where
  enters : Enters P f
  calls : ∀ U ρ w (vs : Array Value), HR U ρ h w → All2 (SR U ρ h w) xs vs.toList → Calls P f vs w fun e w' => ∃ v U1 ρ1, e = .returned v ∧ Go1 U ρ h w U1 ρ1 h1 w' ∧ SR U1 ρ1 h1 w' s v
def ofConst : Value → S
  | .agg _ => .undef
  | .tuple _ => .undef
  | v => .one (vC v)
def St.ev (σ : St) : Operand → S
  | .tmp t => σ.get t
  | .const v => ofConst v
  | .global _ => .undef
  | .func f => .one (.fn f [])
section
variable {P : Program} {cx : Cx} {U U1 : Nat → Prop} {ρ ρ1 : Nat → Value} {σ : St} {h h1 : List Blk} {a : Act} {w w1 : World}
theorem R0.ev (r : R0 cx U ρ σ a w) : ∀ x, SR U ρ σ.heap w (σ.ev x) (a.eval x)
  | .tmp t => r.env t
  | .const v => by
    show SR U ρ σ.heap w (ofConst v) v; unfold ofConst; split
    · trivial
    · trivial
    · rename_i h1 h2
      refine CR.of_val ?_
      cases v <;> first | rfl | exact absurd rfl (h1 _) | exact absurd rfl (h2 _)
  | .global _ => trivial
  | .func f => ⟨#[], rfl, All2.nil⟩
def St.put (σ : St) (d : Option Nat) (s : S) (h : List Blk) (K : St → Prop) : Prop := match d with
  | none => K { σ with heap := h }
  | some d => bif nlt d σ.n then K { env := (d, s) :: σ.env, heap := h, n := σ.n } else False
theorem put_ok {d : Option Nat} {s : S} {K : St → Prop} {v : Value} (hk : σ.put d s h1 K) (r : R0 cx U ρ σ a w) (g : Go1 U ρ σ.heap w U1 ρ1 h1 w1) (hs : SR U1 ρ1 h1 w1 s v) : ∃ σ', K σ' ∧ R cx σ' (a.put d v) w1 := by
  have r1 := r.step g; unfold St.put at hk
  cases d with
  | none => exact ⟨_, hk, U1, ρ1, r1⟩
  | some d =>
    simp only [] at hk
    cases hd : nlt d σ.n with
    | false => rw [hd] at hk; exact hk.elim
    | true =>
      rw [hd] at hk; exact ⟨_, hk, U1, ρ1, r1.put (s := s) (nle_le hd) hs⟩
def calleeOf (σ : St) : Callee → Option (Nat × List S)
  | .value (.func f) => some (f, [])
  | .value x => match core (σ.ev x) with
    | .one (.fn f caps) => some (f, caps.map fun id => .one (.ptr id 0))
    | _ => none
  | _ => none
def callOf : Op → Option Call
  | .call c => match c.callee with
    | .builtin _ => none
    | _ => some c
  | _ => none
def opW (P : Program) (tb : Tb) (ow : Bool) (o : Oper) (σ : St) (K : S → List Blk → Prop) : Prop := match callOf o.op with
  | some c => match calleeOf σ c.callee with
    | some (f, caps) => opGps o.op σ.ev ∧ ∃ s h1, CallStep P f ((c.args.toList.map fun x => core (σ.ev x)) ++ caps) σ.heap s h1 ∧ K s h1
    | none => False
  | none => match opR tb ow o σ.ev σ.heap with
    | some (s, h1, p) => opGps o.op σ.ev ∧ p ∧ K s h1
    | none => False
def opG (P : Program) (tb : Tb) (ow : Bool) (o : Oper) (g : Bool) (σ : St) (K : S → Prop) : Prop := match callOf o.op with
  | some c => match calleeOf σ c.callee with
    | some (f, caps) => ∃ s, (g = true → opGps o.op σ.ev ∧ CallStep P f ((c.args.toList.map fun x => core (σ.ev x)) ++ caps) σ.heap s σ.heap) ∧ K (.grd g s)
    | none => False
  | none => match opR tb ow o σ.ev σ.heap with
    | some (s, h1, p) => (g = true → opGps o.op σ.ev ∧ p ∧ h1 = σ.heap) ∧ K (.grd g s)
    | none => False
def guardOf (σ : St) (ops : Array Oper) (j : Nat) (want : Bool) : Option Bool := match ops[j]? with
  | some o => match o.dst with
    | some d => match σ.get d with
      | .one (.bool b) => some (bif want then b else !b)
      | .grd g (.one (.bool b)) => some (g && (bif want then b else !b))
      | _ => none
    | none => none
  | none => none
def stepW (P : Program) (tb : Tb) (ops : Array Oper) (ow : Bool) (o : Oper) (σ : St) (K : St → Prop) : Prop := match o.guard with
  | none => opW P tb ow o σ fun s h1 => σ.put o.dst s h1 K
  | some (j, want) => match guardOf σ ops j want with
    | some g => opG P tb ow o g σ fun s => σ.put o.dst s σ.heap K
    | none => False
theorem tmps_get {t : Nat} {v : Value} (h : a.tmps.getD t undef = v) (hv : v ≠ undef) : a.tmps[t]? = some v := by
  cases hq : a.tmps[t]? with
  | none => simp [Array.getD_eq_getD_getElem?, hq] at h; exact absurd h.symm hv
  | some u => simp [Array.getD_eq_getD_getElem?, hq] at h; rw [h]
theorem guardOf_ok {ops : Array Oper} {j : Nat} {want g : Bool} (hg : guardOf σ ops j want = some g) (r : R0 cx U ρ σ a w) : (yielded ops a.tmps j == some want) = g := by
  unfold guardOf at hg; split at hg <;> try (cases hg; done)
  rename_i o ho
  split at hg <;> try (cases hg; done)
  rename_i d hd
  have hslot := r.env d; split at hg <;> try (cases hg; done)
  · rename_i b hb
    obtain rfl := Option.some.inj hg; rw [hb] at hslot; have := tmps_get (show a.tmps.getD d undef = .bool b from hslot) (by simp [undef]); simp only [yielded, ho, hd, Option.bind_some, this]
    cases b <;> cases want <;> rfl
  · rename_i g0 b hb
    obtain rfl := Option.some.inj hg; rw [hb] at hslot
    cases g0 with
    | true =>
      have := tmps_get (show a.tmps.getD d undef = .bool b from hslot.1 rfl) (by simp [undef]); simp only [yielded, ho, hd, Option.bind_some, this]
      cases b <;> cases want <;> rfl
    | false =>
      have hu := hslot.2 rfl
      have : (a.tmps[d]?) = none ∨ a.tmps[d]? = some undef := by
        cases hq : a.tmps[d]? with
        | none => exact .inl rfl
        | some u => simp [Array.getD_eq_getD_getElem?, hq] at hu; rw [hu]; exact .inr rfl
      rcases this with this | this
      · simp only [yielded, ho, hd, Option.bind_some, this]; rfl
      · simp only [yielded, ho, hd, Option.bind_some, this, undef]; rfl
theorem run_enter {f : FuncId} {o : Oper} {c : Call} {ev : Operand → Value} {cs : Array Value} (ho : o.op = .call c) (hf : Enters P f) (x : Operand) (hc : c.callee = .value x) (hx : ev x = .func (.func f) #[] cs) : (execOp ev o).run P w = .ok (.enter f (c.args.map ev ++ cs)) w := by
  obtain ⟨fn, b, h1, h2, h3⟩ := hf; have h2' : fn.name ≠ "runtime.NumGoroutine" := by simpa using h2
  simp [execOp, ho, resolve, hc, hx, Deferred.ofValue, invoke, callFunc, program, Sem.run, h1, h2', h3]
theorem caps_args {ids : List Nat} {vs : List Value} (ha : All2 (fun id u => u.oneCell' = true ∧ id < h.length ∧ (isBox h id = true → u = ρ id)) ids vs) (hr : HR U ρ h w) : All2 (SR U ρ h w) (ids.map fun id => S.one (.ptr id 0)) vs := by
  refine ⟨by simpa using ha.1, fun i s v hs hv => ?_⟩; rw [List.getElem?_map] at hs
  cases hq : ids[i]? with
  | none => rw [hq] at hs; cases hs
  | some id =>
    rw [hq] at hs; obtain rfl := Option.some.inj hs; obtain ⟨h0, h1, h2⟩ := ha.2 i id v hq hv; refine ⟨h0, h1, fun hb => ?_⟩; have hu := h2 hb; unfold isBox at hb; split at hb <;> try (cases hb; done)
    rename_i t l hid
    obtain ⟨g, arr, e1, _⟩ := hr.blk id _ hid; exact ⟨g, e1, by rw [hu, e1]⟩
theorem callOf_some {o : Op} {c : Call} (h : callOf o = some c) : o = .call c := by
  unfold callOf at h; split at h <;> try (cases h; done)
  split at h <;> try (cases h; done)
  rw [Option.some.inj h]
theorem callee_ok {c : Call} {f : Nat} {caps : List S} (hc : calleeOf σ c.callee = some (f, caps)) (r : R0 cx U ρ σ a w) (hg : ∀ x, c.callee = .value x → SR U ρ σ.heap w (core (σ.ev x)) (a.eval x)) : ∃ x cs, c.callee = .value x ∧ a.eval x = .func (.func f) #[] cs ∧ All2 (SR U ρ σ.heap w) caps cs.toList := by
  unfold calleeOf at hc; split at hc <;> try (cases hc; done)
  · rename_i f' hx
    obtain ⟨rfl, rfl⟩ := (Prod.mk.injEq ..).mp (Option.some.inj hc); exact ⟨_, #[], hx, rfl, All2.nil⟩
  · rename_i x _ hx
    split at hc <;> try (cases hc; done)
    rename_i f' ids hs
    obtain ⟨rfl, rfl⟩ := (Prod.mk.injEq ..).mp (Option.some.inj hc); have h1 := hg x hx; rw [hs] at h1; obtain ⟨cs, hv, ha⟩ := h1; exact ⟨x, cs, hx, hv, caps_args ha r.hr⟩
theorem opGps_call {c : Call} {o : Op} (ho : o = .call c) (hg : opGps o σ.ev) (r : R0 cx U ρ σ a w) : ∀ x ∈ c.operands, SR U ρ σ.heap w (core (σ.ev x)) (a.eval x) := by
  subst ho; exact fun x hx => gps_ok r.ev _ (opGps_all hg (by simp)) x (by simpa [Op.operands] using hx)
theorem wp_call {o : Oper} {c : Call} {f : Nat} {caps : List S} {s : S} {Q : Exit → Act → World → Prop} {K : Act → World → Prop} (ho : callOf o.op = some c) (hc : calleeOf σ c.callee = some (f, caps)) (hg : opGps o.op σ.ev) (hs : CallStep P f ((c.args.toList.map fun x => core (σ.ev x)) ++ caps) σ.heap s h1) (r : R0 cx U ρ σ a w)
    (hk : ∀ v w1 U1 ρ1, Go1 U ρ σ.heap w U1 ρ1 h1 w1 → SR U1 ρ1 h1 w1 s v → K (a.put o.dst v) w1) : o.wp P a w K Q := by
  have ho' := callOf_some ho; have hops := opGps_call ho' hg r; obtain ⟨x, cs, hx, hv, hcaps⟩ := callee_ok hc r (fun x hx => hops x (by simp [Call.operands, hx])); have hargs := All2.of_fun (f := fun x => core (σ.ev x)) (e := a.eval) c.args.toList (fun y hy => hops y (by simp [Call.operands]; right; simpa using hy)); have hrun := run_enter (P := P) (w := w) (ev := a.eval) ho' hs.enters x hx hv; unfold Oper.wp; rw [hrun]; show Calls P f _ w _; refine Calls.mono (hs.calls U ρ w _ r.hr (by rw [Array.toList_append, Array.toList_map]; exact hargs.append hcaps)) ?_; rintro e w' ⟨v, U1, ρ1, rfl, g, hsr⟩; exact hk v w' U1 ρ1 g hsr
theorem opW_ok {tb : Tb} {ow : Bool} {o : Oper} {K : S → List Blk → Prop} {Q : Exit → Act → World → Prop} {K' : Act → World → Prop} (ok : TbOk P tb) (hw : opW P tb ow o σ K) (r : R0 cx U ρ σ a w) (hk : ∀ s h1 v w1 U1 ρ1, K s h1 → Go1 U ρ σ.heap w U1 ρ1 h1 w1 → SR U1 ρ1 h1 w1 s v → K' (a.put o.dst v) w1) : o.wp P a w K' Q := by
  unfold opW at hw; split at hw
  · rename_i c hc
    split at hw <;> try (exact hw.elim)
    rename_i f caps hcal
    obtain ⟨hg, s, h1, hs, hks⟩ := hw; exact wp_call hc hcal hg hs r fun v w1 U1 ρ1 g hsr => hk s h1 v w1 U1 ρ1 hks g hsr
  · split at hw <;> try (exact hw.elim)
    rename_i s h1 p ho
    obtain ⟨hg, hp, hks⟩ := hw; obtain ⟨v, w1, U1, ρ1, hrun, g, hsr⟩ := opR_ok (P := P) (ev := a.eval) ok ho hp r.hr r.ev hg; unfold Oper.wp; rcases hrun with hrun | ⟨hrun, rfl⟩
    · rw [hrun]; exact hk s h1 v w1 U1 ρ1 hks g hsr
    · rw [hrun]; exact hk s h1 undef w1 U1 ρ1 hks g hsr
theorem stepW_ok {tb : Tb} {ops : Array Oper} {ow : Bool} {i : Nat} {o : Oper} {K : St → Prop} {Q : Exit → Act → World → Prop} (ok : TbOk P tb) (hi : ops[i]? = some o) (hw : stepW P tb ops ow o σ K) (r : R cx σ a w) : wpOp P ops Q i (fun a' w' => ∃ σ', K σ' ∧ R cx σ' a' w') a w := by
  obtain ⟨U, ρ, r⟩ := r; unfold wpOp; simp only [hi]; unfold stepW at hw; split at hw
  · rename_i hgd
    have hwant : Region.wanted o (yielded ops a.tmps) = true := by unfold Region.wanted; rw [hgd]
    rw [if_pos hwant]; exact .inl (opW_ok ok hw r fun s h1 v w1 U1 ρ1 hk g hs => put_ok hk r g hs)
  · rename_i j want hgd
    split at hw <;> try (exact hw.elim)
    rename_i g hg
    have hy := guardOf_ok hg r; have hwant : Region.wanted o (yielded ops a.tmps) = g := by unfold Region.wanted; rw [hgd]; exact hy
    rw [hwant]
    cases g with
    | false =>
      simp only [Bool.false_eq_true, if_false]; have hu : ∀ s, SR U ρ σ.heap w (.grd false s) undef := fun s => ⟨(fun h => by cases h), (fun _ => rfl)⟩
      unfold opG at hw; split at hw
      · split at hw <;> try (exact hw.elim)
        obtain ⟨s, hw⟩ := hw; exact put_ok hw.2 r (Go1.refl r.hr) (hu s)
      · split at hw <;> try (exact hw.elim)
        exact put_ok hw.2 r (Go1.refl r.hr) (hu _)
    | true =>
      rw [if_pos rfl]; refine .inl ?_; unfold opG at hw; split at hw
      · rename_i c hc
        split at hw <;> try (exact hw.elim)
        rename_i f caps hcal
        obtain ⟨s, hs, hk⟩ := hw; obtain ⟨hgp, hs⟩ := hs rfl; exact wp_call hc hcal hgp hs r fun v w1 U1 ρ1 g hsr => put_ok hk r g ⟨fun _ => hsr, fun h => by cases h⟩
      · split at hw <;> try (exact hw.elim)
        rename_i s h1 p ho
        obtain ⟨hp0, hk⟩ := hw; obtain ⟨hgp, hp, rfl⟩ := hp0 rfl; obtain ⟨v, w1, U1, ρ1, hrun, g, hsr⟩ := opR_ok (P := P) (ev := a.eval) ok ho hp r.hr r.ev hgp; have hsr' : SR U1 ρ1 σ.heap w1 (.grd true s) v := ⟨fun _ => hsr, fun h => by cases h⟩
        unfold Oper.wp; rcases hrun with hrun | ⟨hrun, rfl⟩
        · rw [hrun]; exact put_ok hk r g hsr'
        · rw [hrun]; exact put_ok hk r g hsr'
def asg (dst : Option Nat) : List Oper → Bool
  | [] => false
  | o :: r => match o.op, dst with
    | .assign (.tmp t), some d => nb t d || asg dst r
    | _, _ => asg dst r
def opsW (P : Program) (tb : Tb) (ops : Array Oper) : List Oper → St → (St → Prop) → Prop
  | [], σ, K => K σ
  | o :: r, σ, K => stepW P tb ops (asg o.dst r) o σ fun σ' => opsW P tb ops r σ' K
theorem opsW_ok {tb : Tb} {ops : Array Oper} {K : St → Prop} {Q : Exit → Act → World → Prop} (ok : TbOk P tb) : ∀ (l : List Oper) (i : Nat) (σ : St) (a : Act) (w : World), ops.toList.drop i = l → opsW P tb ops l σ K → R cx σ a w → (∀ σ' a' w', K σ' → R cx σ' a' w' → Q .normal a' w') → wpOps P ops Q (List.range' i l.length) a w
  | [], i, σ, a, w, hl, hw, r, hk => hk σ a w hw r
  | o :: rest, i, σ, a, w, hl, hw, r, hk => by
    have hi : ops[i]? = some o := by
      have := congrArg (fun l => l[0]?) hl; simpa [List.getElem?_drop] using this
    have hd : ops.toList.drop (i + 1) = rest := by
      rw [← List.drop_drop, hl]; rfl
    rw [List.length_cons, List.range'_succ, wpOps_cons]; refine wpOp_mono (fun a' w' h => ?_) (stepW_ok ok hi hw r); obtain ⟨σ', hw', r'⟩ := h; exact opsW_ok ok rest (i + 1) σ' a' w' hd hw' r' hk
def W (P : Program) (cx : Cx) (c : Code) (σ : St) (Q : Exit → St → Prop) : Prop := ∀ a w, R cx σ a w → c.wp P (fun e a' w' => ∃ σ', Q e σ' ∧ R cx σ' a' w') a w
theorem W.region {tb : Tb} {id : Nat} {ops : Array Oper} {Q : Exit → St → Prop} (ok : TbOk P tb) (hw : opsW P tb ops ops.toList σ (fun σ' => Q .normal σ')) : W P cx (.region id ops false) σ Q := fun a w r => by
  have := opsW_ok (cx := cx) (Q := fun e a' w' => ∃ σ', Q e σ' ∧ R cx σ' a' w') ok ops.toList 0 σ a w rfl hw r (fun σ' a' w' hk r' => ⟨σ', hk, r'⟩); refine wp_region ?_; rw [List.range_eq_range']; simpa using this
theorem W.mono {c : Code} {Q Q' : Exit → St → Prop} (hw : W P cx c σ Q) (hq : ∀ e σ', Q e σ' → Q' e σ') : W P cx c σ Q' := fun a w r => wp_mono (hw a w r) fun e a' w' ⟨σ', h, r'⟩ => ⟨σ', hq e σ' h, r'⟩
def then_ (Q : Exit → St → Prop) (K : St → Prop) : Exit → St → Prop
  | .normal, σ => K σ
  | e, σ => Q e σ
theorem W.seq {x y : Code} {Q : Exit → St → Prop} (hw : W P cx x σ (then_ Q fun σ' => W P cx y σ' Q)) : W P cx (.seq x y) σ Q := fun a w r => by
  refine wp_seq (wp_mono (hw a w r) fun e a' w' h => ?_); obtain ⟨σ', h, r'⟩ := h
  cases e with
  | normal => exact h a' w' r'
  | _ => exact ⟨σ', h, r'⟩
theorem W.skip {Q : Exit → St → Prop} (h : Q .normal σ) : W P cx .skip σ Q := fun a w r => wp_skip ⟨σ, h, r⟩
theorem W.ret {Q : Exit → St → Prop} (h : Q .ret σ) : W P cx .ret σ Q := fun a w r => wp_ret ⟨σ, h, r⟩
theorem W.exit {id : Nat} {Q : Exit → St → Prop} (h : Q (.exit id) σ) : W P cx (.exit id) σ Q := fun a w r => wp_exit ⟨σ, h, r⟩
def inBlk (id : Nat) (Q : Exit → St → Prop) : Exit → St → Prop
  | .exit id', σ => bif nb id' id then Q .normal σ else Q (.exit id') σ
  | e, σ => Q e σ
theorem W.block {id : Nat} {c : Code} {Q : Exit → St → Prop} (h : W P cx c σ (inBlk id Q)) : W P cx (.block id c) σ Q := fun a w r => by
  refine wp_block (wp_mono (h a w r) fun e a' w' h => ?_); obtain ⟨σ', h, r'⟩ := h
  cases e with
  | exit id' =>
    show if id' = id then _ else _
    by_cases e : id' = id
    · subst e; rw [if_pos rfl]; refine ⟨σ', ?_, r'⟩; simpa [inBlk] using h
    · rw [if_neg e]; refine ⟨σ', ?_, r'⟩; have : nb id' id = false := by cases hb : nb id' id; rfl; exact absurd (nb_eq hb) e
      simpa [inBlk, this] using h
  | _ => exact ⟨σ', h, r'⟩
def boolOf (σ : St) (c : Operand) (K : Bool → Prop) : Prop := match σ.ev c with
  | .one (.bool b) => K b
  | _ => False
theorem W.cond {c : Operand} {x y : Code} {Q : Exit → St → Prop} (h : boolOf σ c fun b => (b = true → W P cx x σ Q) ∧ (b = false → W P cx y σ Q)) : W P cx (.cond c x y) σ Q := fun a w r => by
  unfold boolOf at h; split at h <;> try (exact h.elim)
  rename_i b hb
  have hv : a.eval c = .bool b := by
    obtain ⟨U, ρ, r0⟩ := r; have := r0.ev c; rw [hb] at this; exact this
  exact wp_cond_split hv (fun e => h.1 e a w r) (fun e => h.2 e a w r)
def Le (cx : Cx) (σ σ1 : St) : Prop := ∀ a w, R cx σ a w → R cx σ1 a w
theorem Le.refl (cx : Cx) (σ : St) : Le cx σ σ := fun _ _ r => r
theorem W.le {c : Code} {σ1 : St} {Q : Exit → St → Prop} (hl : Le cx σ σ1) (h : W P cx c σ1 Q) : W P cx c σ Q := fun a w r => h a w (hl a w r)
theorem W.loop {α : Type} {c : Code} {Q : Exit → St → Prop} (I : α → St) (μ : α → Nat) (Φ : α → Prop) (x : α) (hx : Φ x) (h0 : Le cx σ (I x)) (round : ∀ x, Φ x → W P cx c (I x) (then_ Q fun σ' => ∃ y, Φ y ∧ Le cx σ' (I y) ∧ μ y < μ x)) : W P cx (.loop c) σ Q := fun a w r => by
  have key : ∀ n x, μ x < n → Φ x → ∀ a w, R cx (I x) a w → Code.rounds P c (fun e a' w' => ∃ σ', Q e σ' ∧ R cx σ' a' w') n a w := by
    intro n
    induction n with
    | zero => intro x h; omega
    | succ n ih =>
      intro x hn hx a w r; refine wp_mono (round x hx a w r) fun e a' w' h => ?_; obtain ⟨σ', h, r'⟩ := h
      cases e with
      | normal =>
        obtain ⟨y, hy, hl, hlt⟩ := h
        exact ih y (by omega) hy a' w' (hl a' w' r')
      | _ => exact ⟨σ', h, r'⟩
  exact wp_loop_rounds _ (key _ x (Nat.lt_succ_self _) hx a w (h0 a w r))
end
end Go.Den
end
