import Derived.Test.YtibfkkjkahpobaaGreatFt18
set_option linter.unusedVariables false
set_option linter.unusedSimpArgs false
set_option maxHeartbeats 8000000
set_option maxRecDepth 100000
section
-- the texts that this claim needs, out of this session's and its print's (wip/shrink.py)
namespace Go.Den
open Go Go.RowKit
def All2 {α β : Type} (R : α → β → Prop) (l : List α) (l' : List β) : Prop := l.length = l'.length ∧ ∀ (i : Nat) a b, l[i]? = some a → l'[i]? = some b → R a b
section
variable {α β : Type} {R R' : α → β → Prop} {l l1 : List α} {m m1 : List β} {a : α} {b : β}
theorem All2.imp (h : All2 R l m) (hr : ∀ a b, R a b → R' a b) : All2 R' l m := ⟨h.1, fun i a b ha hb => hr _ _ (h.2 i a b ha hb)⟩
theorem All2.nil : All2 R [] [] := ⟨rfl, fun i a b h => by simp at h⟩
theorem All2.cons (h : R a b) (t : All2 R l m) : All2 R (a :: l) (b :: m) := ⟨by simp [t.1], fun i x y hx hy => by
  cases i with
  | zero => simp at hx hy; rw [← hx, ← hy]; exact h
  | succ i => simp at hx hy; exact t.2 i x y hx hy⟩
theorem All2.head (h : All2 R (a :: l) (b :: m)) : R a b ∧ All2 R l m := ⟨h.2 0 a b rfl rfl, by simpa using h.1, fun i x y hx hy => h.2 (i + 1) x y (by simpa using hx) (by simpa using hy)⟩
theorem All2.left_cons (h : All2 R (a :: l) m) : ∃ b m', m = b :: m' ∧ R a b ∧ All2 R l m' := by
  cases m with
  | nil => simp [All2] at h
  | cons b m => exact ⟨b, m, rfl, h.head⟩
theorem All2.left_nil (h : All2 R [] m) : m = [] := List.eq_nil_of_length_eq_zero (by rw [← h.1]; rfl)
theorem All2.append (h : All2 R l m) (h1 : All2 R l1 m1) : All2 R (l ++ l1) (m ++ m1) := by
  induction l generalizing m with
  | nil => rw [h.left_nil]; exact h1
  | cons a l ih =>
    obtain ⟨b, m', rfl, hr, ht⟩ := h.left_cons; exact All2.cons hr (ih ht)
theorem All2.drop (h : All2 R l m) (n : Nat) : All2 R (l.drop n) (m.drop n) := ⟨by simp [h.1], fun i a b ha hb => h.2 (n + i) a b (by simpa using ha) (by simpa using hb)⟩
theorem All2.take (h : All2 R l m) (n : Nat) : All2 R (l.take n) (m.take n) := ⟨by simp [h.1], fun i a b ha hb => by
  rw [List.getElem?_take] at ha hb; split at ha
  · rename_i hi
    rw [if_pos hi] at hb; exact h.2 i a b ha hb
  · cases ha⟩
theorem All2.get {i : Nat} (h : All2 R l m) (ha : l[i]? = some a) : ∃ b, m[i]? = some b ∧ R a b := by
  have hi : i < m.length := by rw [← h.1]; exact (List.getElem?_eq_some_iff.1 ha).1
  exact ⟨m[i], List.getElem?_eq_getElem hi, h.2 i a _ ha (List.getElem?_eq_getElem hi)⟩
theorem All2.set {i : Nat} (h : All2 R l m) (hr : R a b) : All2 R (l.set i a) (m.set i b) := ⟨by simp [h.1], fun j x y hx hy => by
  by_cases hij : i = j
  · subst hij; rw [List.getElem?_set_self'] at hx hy
    cases h1 : l[i]? with
    | none => rw [h1] at hx; simp at hx
    | some z =>
      cases h2 : m[i]? with
      | none => rw [h2] at hy; simp at hy
      | some z' =>
        rw [h1] at hx; rw [h2] at hy; simp at hx hy; subst hx hy; exact hr
  · rw [List.getElem?_set_ne hij] at hx hy
    exact h.2 j x y hx hy⟩
end
def rowK (h : List Blk) (id : Nat) : Option K := match h[id]? with
  | some (.row _ k _) => some k
  | some (.frz _ k _) => some k
  | _ => none
def isBox (h : List Blk) (id : Nat) : Bool := match h[id]? with
  | some (.box ..) => true
  | _ => false
def ptrBlk : Value → Option Nat
  | .pointer (some a) => some a.block
  | _ => none
def place (ρ : Nat → Value) (h : List Blk) (id : Nat) : Option Nat := match h[id]? with
  | some (.row ..) => (ρ id).ownBlock
  | some (.box ..) => ptrBlk (ρ id)
  | _ => none
def CR (U : Nat → Prop) (ρ : Nat → Value) (h : List Blk) (w : World) : C → Value → Prop
  | .int k n, v => v = .int k n
  | .bool b, v => v = .bool b
  | .str s, v => v = .string s
  | .row e k xs, v => KS U w (.row e k) xs [v]
  | .nil, v => v = .slice none 0 0
  | .own id, v => v.oneCell' = true ∧ id < h.length ∧ (∀ k, rowK h id = some k → v = ρ id)
  | .sub id lo hi, v => v.oneCell' = true ∧ id < h.length ∧ ∀ k, rowK h id = some k → ∃ A n c, ρ id = .slice A n c ∧ lo ≤ hi ∧ hi ≤ n ∧ n ≤ c ∧ v = .slice (if c = lo then A else A.map (·.add (lo * k.sz))) (hi - lo) (c - lo)
  | .ptr id off, v => v.oneCell' = true ∧ id < h.length ∧ (isBox h id = true → ∃ g, ρ id = .pointer (some ⟨g, 0, none⟩) ∧ v = .pointer (some ⟨g, off, none⟩))
  | .nilp, v => v = .pointer none
  | .at_ k x off, v => ∃ ad cs, v = .pointer (some ad) ∧ KS U w k x cs ∧ ∀ j u, cs[off + j]? = some u → ∀ w', Agree U w w' → w'.cell? (ad.add j) = some u
  | .elt id i off, v => v.oneCell' = true ∧ id < h.length ∧ ∀ k, rowK h id = some k → ∃ g n c, ρ id = .slice (some ⟨g, 0, none⟩) n c ∧ v = .pointer (some ⟨g, i * k.sz + off, none⟩)
  | .fn f caps, v => ∃ vs, v = .func (.func f) #[] vs ∧ All2 (fun id u => u.oneCell' = true ∧ id < h.length ∧ (isBox h id = true → u = ρ id)) caps vs.toList
  | .dead, v => v.oneCell' = true
def PartR (U : Nat → Prop) (ρ : Nat → Value) (h : List Blk) (w : World) (p : Bool × List C) (v : Value) : Prop :=
  if p.1 = true then ∃ cs, v = .agg cs ∧ All2 (CR U ρ h w) p.2 cs.toList else ∃ c, p.2 = [c] ∧ CR U ρ h w c v
def SR (U : Nat → Prop) (ρ : Nat → Value) (h : List Blk) (w : World) : S → Value → Prop
  | .undef, _ => True
  | .one c, v => CR U ρ h w c v
  | .agg l, v => ∃ cs, v = .agg cs ∧ All2 (CR U ρ h w) l cs.toList
  | .tup l, v => ∃ vs, v = .tuple vs ∧ All2 (PartR U ρ h w) l vs.toList
  | .grd b s, v => (b = true → SR U ρ h w s v) ∧ (b = false → v = undef)
  | .raw u, v => v = u
structure Ext (ρ : Nat → Value) (h : List Blk) (ρ1 : Nat → Value) (h1 : List Blk) : Prop where
  len : h.length ≤ h1.length
  row : ∀ id k, id < h.length → rowK h1 id = some k → rowK h id = some k ∧ ρ1 id = ρ id
  box : ∀ id, id < h.length → isBox h1 id = true → isBox h id = true ∧ ρ1 id = ρ id
theorem Ext.refl (ρ : Nat → Value) (h : List Blk) : Ext ρ h ρ h := ⟨Nat.le_refl _, fun _ _ _ hk => ⟨hk, rfl⟩, fun _ _ hk => ⟨hk, rfl⟩⟩
theorem Ext.trans {ρ ρ1 ρ2 : Nat → Value} {h h1 h2 : List Blk} (e : Ext ρ h ρ1 h1) (e1 : Ext ρ1 h1 ρ2 h2) : Ext ρ h ρ2 h2 :=
  ⟨Nat.le_trans e.len e1.len, fun id k hi hk => by
    obtain ⟨a, b⟩ := e1.row id k (Nat.lt_of_lt_of_le hi e.len) hk; obtain ⟨c, d⟩ := e.row id k hi a; exact ⟨c, b.trans d⟩, fun id hi hk => by
    obtain ⟨a, b⟩ := e1.box id (Nat.lt_of_lt_of_le hi e.len) hk; obtain ⟨c, d⟩ := e.box id hi a
    exact ⟨c, b.trans d⟩⟩
section
variable {U U1 : Nat → Prop} {ρ ρ1 : Nat → Value} {h h1 : List Blk} {w w1 : World}
theorem CR.tr (t : Tr U w U1 w1) (e : Ext ρ h ρ1 h1) : ∀ {c : C} {v : Value}, CR U ρ h w c v → CR U1 ρ1 h1 w1 c v
  | .int _ _, _, hc => hc
  | .bool _, _, hc => hc
  | .str _, _, hc => hc
  | .row e k xs, _, hc => KS.tr (k := .row e k) hc t
  | .nil, _, hc => hc
  | .own id, _, ⟨h1, hc⟩ => ⟨h1, Nat.lt_of_lt_of_le hc.1 e.len, fun k hk => by
      obtain ⟨a, b⟩ := e.row id k hc.1 hk
      exact (hc.2 k a).trans b.symm⟩
  | .sub id lo hi, _, ⟨h1, hc⟩ => ⟨h1, Nat.lt_of_lt_of_le hc.1 e.len, fun k hk => by
      obtain ⟨a, b⟩ := e.row id k hc.1 hk
      rw [b]; exact hc.2 k a⟩
  | .ptr id off, _, ⟨h1, hc⟩ => ⟨h1, Nat.lt_of_lt_of_le hc.1 e.len, fun hk => by
      obtain ⟨a, b⟩ := e.box id hc.1 hk
      rw [b]; exact hc.2 a⟩
  | .nilp, _, hc => hc
  | .at_ k x off, _, ⟨ad, cs, hv, hk, hcell⟩ => ⟨ad, cs, hv, hk.tr t, fun j u hu w' hw => hcell j u hu w' (t.agree.trans hw t.less)⟩
  | .elt id i off, _, ⟨h1, hc⟩ => ⟨h1, Nat.lt_of_lt_of_le hc.1 e.len, fun k hk => by
      obtain ⟨a, b⟩ := e.row id k hc.1 hk
      rw [b]; exact hc.2 k a⟩
  | .fn f caps, _, ⟨vs, hv, ha⟩ => ⟨vs, hv, ha.imp fun id u hu => ⟨hu.1, Nat.lt_of_lt_of_le hu.2.1 e.len, fun hk => by
      obtain ⟨a, b⟩ := e.box id hu.2.1 hk
      exact (hu.2.2 a).trans b.symm⟩⟩
  | .dead, _, hc => hc
theorem CR.one : ∀ {c : C} {v : Value}, CR U ρ h w c v → v.oneCell' = true
  | .int _ _, _, hc => by rw [show _ = _ from hc]; rfl
  | .bool _, _, hc => by rw [show _ = _ from hc]; rfl
  | .str _, _, hc => by rw [show _ = _ from hc]; rfl
  | .row e k xs, v, hc => KR.one (k := .row e k) (KS.now (k := .row e k) hc) v (by simp)
  | .nil, _, hc => by rw [show _ = _ from hc]; rfl
  | .own id, _, hc => hc.1
  | .sub id lo hi, _, hc => hc.1
  | .ptr id off, _, hc => hc.1
  | .nilp, _, hc => by rw [show _ = _ from hc]; rfl
  | .at_ k x off, _, ⟨ad, cs, hv, _⟩ => by rw [hv]; rfl
  | .elt id i off, _, hc => hc.1
  | .fn f caps, _, ⟨vs, hv, _⟩ => by rw [hv]; rfl
  | .dead, _, hc => hc
theorem PartR.tr (t : Tr U w U1 w1) (e : Ext ρ h ρ1 h1) {p : Bool × List C} {v : Value} (hp : PartR U ρ h w p v) : PartR U1 ρ1 h1 w1 p v := by
  unfold PartR at *; split
  · rename_i hb
    rw [if_pos hb] at hp; obtain ⟨cs, hv, ha⟩ := hp; exact ⟨cs, hv, ha.imp fun _ _ hc => hc.tr t e⟩
  · rename_i hb
    rw [if_neg hb] at hp; obtain ⟨c, hv, ha⟩ := hp; exact ⟨c, hv, ha.tr t e⟩
theorem SR.tr (t : Tr U w U1 w1) (e : Ext ρ h ρ1 h1) : ∀ {s : S} {v : Value}, SR U ρ h w s v → SR U1 ρ1 h1 w1 s v
  | .undef, _, _ => trivial
  | .one _, _, hc => CR.tr t e hc
  | .agg _, _, ⟨cs, hv, ha⟩ => ⟨cs, hv, ha.imp fun _ _ hc => hc.tr t e⟩
  | .tup _, _, ⟨vs, hv, ha⟩ => ⟨vs, hv, ha.imp fun _ _ hc => hc.tr t e⟩
  | .grd b s, _, hc => ⟨fun hb => SR.tr t e (hc.1 hb), hc.2⟩
  | .raw _, _, hc => hc
theorem flat_CR : ∀ {k : K} {x : k.T} {cs : List Value}, KS U w k x cs → All2 (CR U ρ h w) (k.flat x) cs
  | .int kk, n, cs, hk => by obtain rfl := hk.now; exact All2.cons rfl All2.nil
  | .bool, n, cs, hk => by obtain rfl := hk.now; exact All2.cons rfl All2.nil
  | .str, n, cs, hk => by obtain rfl := hk.now; exact All2.cons rfl All2.nil
  | .unit, n, cs, hk => by obtain rfl := hk.now; exact All2.nil
  | .pair a b, x, cs, hk => by
    obtain ⟨c0, c1, rfl, h0, h1⟩ := KS.pair.1 hk
    exact (flat_CR h0).append (flat_CR h1)
  | .row e a, xs, cs, hk => by
    have hn := hk.now; obtain ⟨A, c, rfl, _⟩ := hn; exact All2.cons hk All2.nil
theorem KS.nil_row (e : Nat) (k : K) : KS U w (.row e k) [] [.slice none 0 0] := fun w' _ => ⟨none, 0, rfl, Nat.le_refl _, rfl, by simp, fun hn => absurd hn (by simp)⟩
theorem fit_KS : ∀ (k : K) {l : List C} {p : k.T × List C} {vs : List Value}, k.fit l = some p → All2 (CR U ρ h w) l vs → KS U w k p.1 (vs.take k.sz) ∧ All2 (CR U ρ h w) p.2 (vs.drop k.sz)
  | .int kk, l, p, vs, hf, ha => by
    unfold K.fit at hf; split at hf
    · split at hf
      · rename_i hkk
        subst hkk; obtain ⟨b, m', rfl, hr, ht⟩ := ha.left_cons; obtain rfl := Option.some.inj hf; exact ⟨fun w' _ => by rw [show b = .int _ _ from hr]; rfl, ht⟩
      · cases hf
    · cases hf
  | .bool, l, p, vs, hf, ha => by
    unfold K.fit at hf; split at hf
    · obtain ⟨b, m', rfl, hr, ht⟩ := ha.left_cons; obtain rfl := Option.some.inj hf; exact ⟨fun w' _ => by rw [show b = .bool _ from hr]; rfl, ht⟩
    · cases hf
  | .str, l, p, vs, hf, ha => by
    unfold K.fit at hf; split at hf
    · obtain ⟨b, m', rfl, hr, ht⟩ := ha.left_cons; obtain rfl := Option.some.inj hf; exact ⟨fun w' _ => by rw [show b = .string _ from hr]; rfl, ht⟩
    · cases hf
  | .unit, l, p, vs, hf, ha => by
    obtain rfl := Option.some.inj hf
    exact ⟨fun w' _ => rfl, ha⟩
  | .pair a b, l, p, vs, hf, ha => by
    have hf : ((a.fit l).bind fun p => (b.fit p.2).bind fun q => some ((p.1, q.1), q.2)) = some p := hf
    cases h1 : a.fit l with
    | none => rw [h1] at hf; cases hf
    | some q1 =>
      rw [h1, Option.bind_some] at hf
      cases h2 : b.fit q1.2 with
      | none => rw [h2] at hf; cases hf
      | some q2 =>
        rw [h2, Option.bind_some] at hf; obtain rfl := Option.some.inj hf; obtain ⟨k1, r1⟩ := fit_KS a h1 ha; obtain ⟨k2, r2⟩ := fit_KS b h2 r1; refine ⟨KS.pair.2 ⟨_, _, ?_, k1, k2⟩, ?_⟩
        · show vs.take (a.sz + b.sz) = _; rw [List.take_add]
        · show All2 _ _ (vs.drop (a.sz + b.sz))
          rw [← List.drop_drop]; exact r2
  | .row e a, l, p, vs, hf, ha => by
    unfold K.fit at hf; split at hf
    · rename_i e' a' xs r
      cases hb : nb e' e with
      | false => rw [hb] at hf; cases hf
      | true =>
        rw [hb] at hf; obtain rfl := nb_eq hb; obtain ⟨ys, hc, rfl⟩ := Option.map_eq_some_iff.1 (show (castRow a' a xs).map (fun ys => (ys, r)) = some p from hf); obtain ⟨rfl, rfl⟩ := castRow_some hc; obtain ⟨b, m', rfl, hr, ht⟩ := ha.left_cons; exact ⟨hr, ht⟩
    · obtain ⟨b, m', rfl, hr, ht⟩ := ha.left_cons; obtain rfl := Option.some.inj hf; refine ⟨?_, ht⟩; rw [show b = _ from hr]; exact KS.nil_row e a
    · cases hf
end
end Go.Den
end
section
-- the texts that this claim needs, out of this session's and its print's (wip/shrink.py)
namespace Go.Den
open Go Go.RowKit
def Lie {α : Type} (R : α → List Value → Prop) (size : Nat) (ps : List α) (cs : List Value) : Prop :=
  cs.length = ps.length * size ∧ ∀ (j : Nat) p, ps[j]? = some p → R p ((cs.drop (j * size)).take size)
theorem Lie.imp {α : Type} {R R' : α → List Value → Prop} {size : Nat} {ps : List α} {cs : List Value} (h : Lie R size ps cs) (hR : ∀ p c, R p c → R' p c) : Lie R' size ps cs := ⟨h.1, fun j p hj => hR _ _ (h.2 j p hj)⟩
def BR (U : Nat → Prop) (ρ : Nat → Value) (h : List Blk) (w : World) (id : Nat) : Blk → Prop
  | .box t l => ∃ g arr, ρ id = .pointer (some ⟨g, 0, none⟩) ∧ w.heap[g]? = some (.cells arr t (0, 0)) ∧ All2 (CR U ρ h w) l arr.toList
  | .row e k xs => ∃ cs, w.ownsRow 0 e k.sz (ρ id) xs.length cs ∧ Lie (KS U w k) k.sz xs cs
  | .frz e k xs => KS U w (.row e k) xs [ρ id]
  | .dead => True
structure HR (U : Nat → Prop) (ρ : Nat → Value) (h : List Blk) (w : World) : Prop where
  blk : ∀ (id : Nat) b, h[id]? = some b → BR U ρ h w id b
  apart : ∀ i j g, place ρ h i = some g → place ρ h j = some g → i = j
  inU : ∀ i g, place ρ h i = some g → U g ∧ g < w.heap.size
theorem place_lt {ρ : Nat → Value} {h : List Blk} {i g : Nat} (hp : place ρ h i = some g) : i < h.length := by
  unfold place at hp; split at hp
  · rename_i he; exact (List.getElem?_eq_some_iff.1 he).1
  · rename_i he; exact (List.getElem?_eq_some_iff.1 he).1
  · cases hp
theorem ownsRow_move {w w1 : World} {base : Nat} {e : TypeId} {size n : Nat} {v : Value} {xs : List Value} (h : w.ownsRow base e size v n xs) (hm : ∀ k, v.ownBlock = some k → w1.heap[k]? = w.heap[k]?) : w1.ownsRow base e size v n xs := by
  obtain ⟨h1, h2⟩ := h; refine ⟨h1, ?_⟩; rcases h2 with h2 | ⟨g, cap, cur, rfl, hg, hh, r⟩
  · exact .inl h2
  · exact .inr ⟨g, cap, cur, rfl, hg, (hm g (by simp [Value.ownBlock])).trans hh, r⟩
theorem BR.tr {U U1 : Nat → Prop} {ρ ρ1 : Nat → Value} {h h1 : List Blk} {w w1 : World} {id : Nat} {b : Blk} (hb : BR U ρ h w id b) (hid : h[id]? = some b) (t : Tr U w U1 w1) (e : Ext ρ h ρ1 h1) (hρ : (∀ x, b ≠ .dead → x = id → ρ1 x = ρ x)) (hp : ∀ g, place ρ h id = some g → w1.heap[g]? = w.heap[g]?) : BR U1 ρ1 h1 w1 id b := by
  cases b with
  | box ty l =>
    obtain ⟨g, arr, h1, h2, h3⟩ := hb; refine ⟨g, arr, (hρ id (by simp) rfl).trans h1, ?_, h3.imp fun _ _ hc => hc.tr t e⟩
    rw [hp g (by simp [place, hid, h1, ptrBlk])]; exact h2
  | row ty k xs =>
    obtain ⟨cs, h1, h2⟩ := hb; refine ⟨cs, ?_, h2.imp fun _ _ hc => hc.tr t⟩; rw [hρ id (by simp) rfl]
    exact ownsRow_move h1 (fun g hg => hp g (by simp [place, hid, hg]))
  | frz ty k xs =>
    show KS U1 w1 _ _ [ρ1 id]; rw [hρ id (by simp) rfl]
    exact KS.tr (k := .row ty k) hb t
  | dead => trivial
structure Cx where
  w0 : World
  U0 : Nat → Prop
  W0 : Nat → Prop
  h0 : List Blk
  ρ0 : Nat → Value
structure St where
  env : List (Nat × S)
  heap : List Blk
  n : Nat
def look : List (Nat × S) → Nat → S
  | [], _ => .undef
  | (t', s) :: r, t => bif nb t' t then s else look r t
def St.get (σ : St) (t : Nat) : S := look σ.env t
structure R0 (cx : Cx) (U : Nat → Prop) (ρ : Nat → Value) (σ : St) (a : Act) (w : World) : Prop where
  size : a.tmps.size = σ.n
  defers : a.defers = []
  env : ∀ t, SR U ρ σ.heap w (σ.get t) (a.tmps.getD t undef)
  hr : HR U ρ σ.heap w
  agree : Agree cx.W0 cx.w0 w
  newU : ∀ b, b < cx.w0.heap.size → U b → cx.U0 b
  oldU : ∀ b, b < cx.w0.heap.size → cx.U0 b → U b ∨ cx.W0 b
  places : ∀ i g, place ρ σ.heap i = some g → cx.W0 g ∨ cx.w0.heap.size ≤ g
  ext : Ext cx.ρ0 cx.h0 ρ σ.heap
def R (cx : Cx) (σ : St) (a : Act) (w : World) : Prop := ∃ U ρ, R0 cx U ρ σ a w
def Wr (ρ : Nat → Value) (h : List Blk) (b : Nat) : Prop := ∃ i, place ρ h i = some b
structure Go1 (U : Nat → Prop) (ρ : Nat → Value) (h : List Blk) (w : World) (U1 : Nat → Prop) (ρ1 : Nat → Value) (h1 : List Blk) (w1 : World) : Prop where
  agree : Agree (Wr ρ h) w w1
  less : ∀ b, b < w.heap.size → U1 b → U b
  keep : ∀ b, b < w.heap.size → U b → U1 b ∨ Wr ρ h b
  hr : HR U1 ρ1 h1 w1
  ext : Ext ρ h ρ1 h1
  places : ∀ i g, place ρ1 h1 i = some g → Wr ρ h g ∨ w.heap.size ≤ g
section
variable {cx : Cx} {U U1 : Nat → Prop} {ρ ρ1 : Nat → Value} {σ : St} {h h1 : List Blk} {a : Act} {w w1 : World}
theorem Go1.tr (hr : HR U ρ h w) (g : Go1 U ρ h w U1 ρ1 h1 w1) : Tr U w U1 w1 := ⟨g.agree.mono fun b _ ⟨i, hi⟩ => (hr.inU i b hi).1, g.less⟩
theorem Go1.refl (hr : HR U ρ h w) : Go1 U ρ h w U ρ h w := ⟨Agree.refl _ _, fun _ _ h => h, fun _ _ h => .inl h, hr, Ext.refl _ _, fun i g hg => .inl ⟨i, hg⟩⟩
theorem R0.step (r : R0 cx U ρ σ a w) (g : Go1 U ρ σ.heap w U1 ρ1 h1 w1) : R0 cx U1 ρ1 { σ with heap := h1 } a w1 where
  size := r.size
  defers := r.defers
  env t := (r.env t).tr (g.tr r.hr) g.ext
  hr := g.hr
  agree := r.agree.trans g.agree fun b hb ⟨i, hi⟩ => (r.places i b hi).resolve_right (by omega)
  newU b hb hu := r.newU b hb (g.less b (Nat.lt_of_lt_of_le hb r.agree.size) hu)
  oldU b hb hu := by
    rcases r.oldU b hb hu with h | h
    · rcases g.keep b (Nat.lt_of_lt_of_le hb r.agree.size) h with h | ⟨i, hi⟩
      · exact .inl h
      · exact .inr ((r.places i b hi).resolve_right (by omega))
    · exact .inr h
  places i b hb := by
    rcases g.places i b hb with ⟨j, hj⟩ | hj
    · exact r.places j b hj
    · exact .inr (Nat.le_trans r.agree.size hj)
  ext := r.ext.trans g.ext
theorem getD_put_ne {a : Act} {d t : Nat} {v : Value} (h : d ≠ t) : (a.put (some d) v).tmps.getD t undef = a.tmps.getD t undef := by
  simp [Act.put, Array.getElem?_setIfInBounds_ne h]
theorem R0.put (r : R0 cx U ρ σ a w) {d : Nat} {s : S} {v : Value} (hd : d < σ.n) (hs : SR U ρ σ.heap w s v) : R0 cx U ρ { σ with env := (d, s) :: σ.env } (a.put (some d) v) w where
  size := by simp [Act.put]; exact r.size
  defers := r.defers
  env t := by
    show SR U ρ σ.heap w (bif nb d t then s else look σ.env t) _
    cases hdt : nb d t with
    | true =>
      obtain rfl := nb_eq hdt
      have : (a.put (some d) v).tmps.getD d undef = v := by
        have hz : d < a.tmps.size := by rw [r.size]; exact hd
        simp [Act.put, hz]
      rw [this]; exact hs
    | false =>
      rw [getD_put_ne (nb_ne hdt)]; exact r.env t
  hr := r.hr
  agree := r.agree
  newU := r.newU
  oldU := r.oldU
  places := r.places
  ext := r.ext
end
section
variable {U U1 : Nat → Prop} {ρ ρ1 : Nat → Value} {h h1 : List Blk} {w w1 : World}
def upd (ρ : Nat → Value) (n : Nat) (v : Value) : Nat → Value := fun i => bif nb i n then v else ρ i
theorem upd_at (ρ : Nat → Value) (n : Nat) (v : Value) : upd ρ n v n = v := by unfold upd; rw [show nb n n = true from nb_refl n]; rfl
theorem upd_ne {ρ : Nat → Value} {n i : Nat} {v : Value} (h : i ≠ n) : upd ρ n v i = ρ i := by
  unfold upd; have : nb i n = false := by cases hb : nb i n; rfl; exact absurd (nb_eq hb) h
  rw [this]; rfl
theorem get_push_lt {h : List Blk} {b : Blk} {i : Nat} (hi : i < h.length) : (h ++ [b])[i]? = h[i]? := List.getElem?_append_left hi
theorem get_push (h : List Blk) (b : Blk) : (h ++ [b])[h.length]? = some b := by simp
theorem rowK_push_lt {h : List Blk} {b : Blk} {i : Nat} (hi : i < h.length) : rowK (h ++ [b]) i = rowK h i := by unfold rowK; rw [get_push_lt hi]
theorem isBox_push_lt {h : List Blk} {b : Blk} {i : Nat} (hi : i < h.length) : isBox (h ++ [b]) i = isBox h i := by unfold isBox; rw [get_push_lt hi]
theorem place_push_lt {b : Blk} {v : Value} {i : Nat} (hi : i < h.length) : place (upd ρ h.length v) (h ++ [b]) i = place ρ h i := by
  unfold place; rw [get_push_lt hi, upd_ne (Nat.ne_of_lt hi)]
theorem Ext.push (ρ : Nat → Value) (h : List Blk) (b : Blk) (v : Value) : Ext ρ h (upd ρ h.length v) (h ++ [b]) :=
  ⟨by simp, fun id k hi hk => ⟨by rwa [rowK_push_lt hi] at hk, upd_ne (Nat.ne_of_lt hi)⟩, fun id hi hk => ⟨by rwa [isBox_push_lt hi] at hk, upd_ne (Nat.ne_of_lt hi)⟩⟩
theorem Go1.push {b : Blk} {v : Value} {g : Option Nat} (hr : HR U ρ h w) (ag : Agree (fun _ => False) w w1) (hpl : place (upd ρ h.length v) (h ++ [b]) h.length = g) (hg : ∀ x, g = some x → w.heap.size ≤ x ∧ x < w1.heap.size)
    (hb : ∀ U1, Tr U w U1 w1 → (∀ x, g = some x → U1 x) → BR U1 (upd ρ h.length v) (h ++ [b]) w1 h.length b) : Go1 U ρ h w (fun x => (U x ∧ x < w.heap.size) ∨ g = some x) (upd ρ h.length v) (h ++ [b]) w1 := by
  have less : ∀ x, x < w.heap.size → ((U x ∧ x < w.heap.size) ∨ g = some x) → U x := fun x hx hu => hu.elim (·.1) (fun e => absurd (hg x e).1 (by omega)); have tr : Tr U w (fun x => (U x ∧ x < w.heap.size) ∨ g = some x) w1 := ⟨ag.mono (fun _ _ h => h.elim), less⟩
  have hk : ∀ x, x < w.heap.size → w1.heap[x]? = w.heap[x]? := fun x hx => ag.block x hx (fun h => h); refine ⟨ag.mono (fun _ _ h => h.elim), less, fun x hx hu => .inl (.inl ⟨hu, hx⟩), ⟨fun id b' hid => ?_, fun i j x hi hj => ?_, fun i x hi => ?_⟩, Ext.push _ _ _ _, fun i x hi => ?_⟩
  · rcases Nat.lt_or_ge id h.length with hl | hl
    · rw [get_push_lt hl] at hid; exact (hr.blk id b' hid).tr hid tr (Ext.push _ _ _ _) (fun x _ e => by subst e; exact upd_ne (Nat.ne_of_lt hl)) (fun x hx => hk x (hr.inU id x hx).2)
    · have hl2 : id < (h ++ [b]).length := (List.getElem?_eq_some_iff.1 hid).1; obtain rfl : id = h.length := by simp at hl2; omega
      rw [get_push] at hid; obtain rfl := Option.some.inj hid; exact hb _ tr (fun x hx => .inr hx)
  · have li := place_lt hi; have lj := place_lt hj; simp at li lj; rcases Nat.lt_or_ge i h.length with h1 | h1 <;> rcases Nat.lt_or_ge j h.length with h2 | h2
    · rw [place_push_lt h1] at hi; rw [place_push_lt h2] at hj; exact hr.apart i j x hi hj
    · rw [place_push_lt h1] at hi; obtain rfl : j = h.length := by omega
      have := (hg x (hpl.symm.trans hj)).1; have := (hr.inU i x hi).2; omega
    · rw [place_push_lt h2] at hj; obtain rfl : i = h.length := by omega
      have := (hg x (hpl.symm.trans hi)).1; have := (hr.inU j x hj).2; omega
    · omega
  · have li := place_lt hi; simp at li; rcases Nat.lt_or_ge i h.length with h1 | h1
    · rw [place_push_lt h1] at hi; have := hr.inU i x hi; exact ⟨.inl this, Nat.lt_of_lt_of_le this.2 ag.size⟩
    · obtain rfl : i = h.length := by omega
      exact ⟨.inr (hpl.symm.trans hi), (hg x (hpl.symm.trans hi)).2⟩
  · have li := place_lt hi; simp at li; rcases Nat.lt_or_ge i h.length with h1 | h1
    · rw [place_push_lt h1] at hi; exact .inl ⟨i, hi⟩
    · obtain rfl : i = h.length := by omega
      exact .inr (hg x (hpl.symm.trans hi)).1
theorem get_set_ne {h : List Blk} {b : Blk} {i j : Nat} (hij : i ≠ j) : (h.set i b)[j]? = h[j]? := List.getElem?_set_ne hij
theorem get_set {h : List Blk} {b : Blk} {i : Nat} (hi : i < h.length) : (h.set i b)[i]? = some b := by simp [hi]
theorem Go1.set {id : Nat} {b b1 : Blk} (hr : HR U ρ h w) (hid : h[id]? = some b) (ag : Agree (fun x => place ρ h id = some x) w w1) (hk : ∀ k, rowK (h.set id b1) id = some k → rowK h id = some k) (hx : isBox (h.set id b1) id = true → isBox h id = true) (hpl : ∀ g, place ρ (h.set id b1) id = some g → place ρ h id = some g)
    (U1 : Nat → Prop) (less : ∀ x, x < w.heap.size → U1 x → U x) (keep : ∀ x, x < w.heap.size → U x → U1 x ∨ place ρ h id = some x) (hin : ∀ g, place ρ (h.set id b1) id = some g → U1 g)
    (hb : Tr U w U1 w1 → Ext ρ h ρ (h.set id b1) → BR U1 ρ (h.set id b1) w1 id b1) : Go1 U ρ h w U1 ρ (h.set id b1) w1 := by
  have hl : id < h.length := (List.getElem?_eq_some_iff.1 hid).1
  have ex : Ext ρ h ρ (h.set id b1) := by
    refine ⟨by simp, fun i k hi hk' => ⟨?_, rfl⟩, fun i hi hk' => ⟨?_, rfl⟩⟩
    · by_cases e : id = i
      · subst e; exact hk k hk'
      · simpa [rowK, get_set_ne e] using hk'
    · by_cases e : id = i
      · subst e; exact hx hk'
      · simpa [isBox, get_set_ne e] using hk'
  have tr : Tr U w U1 w1 := ⟨ag.mono (fun x _ hx => (hr.inU id x hx).1), less⟩
  have hplace : ∀ i, id ≠ i → place ρ (h.set id b1) i = place ρ h i := fun i e => by simp [place, get_set_ne e]
  have hp' : ∀ i g, place ρ (h.set id b1) i = some g → place ρ h i = some g := fun i g hg => by
    by_cases e : id = i
    · subst e; exact hpl g hg
    · rwa [hplace i e] at hg
  refine ⟨ag.mono (fun x _ hx => ⟨id, hx⟩), less, fun x hx hu => (keep x hx hu).imp (fun h => h) (fun h => ⟨id, h⟩), ⟨fun i b' hi => ?_, fun i j x hi hj => hr.apart i j x (hp' i x hi) (hp' j x hj), fun i x hi => ?_⟩, ex, fun i x hi => .inl ⟨i, hp' i x hi⟩⟩
  · by_cases e : id = i
    · subst e; rw [get_set hl] at hi; obtain rfl := Option.some.inj hi; exact hb tr ex
    · rw [get_set_ne e] at hi; refine (hr.blk i b' hi).tr hi tr ex (fun _ _ _ => rfl) (fun g hg => ag.block g (hr.inU i g hg).2 (fun hx => e (hr.apart id i g hx hg)))
  · have hp := hp' i x hi; have hu := hr.inU i x hp; refine ⟨?_, Nat.lt_of_lt_of_le hu.2 ag.size⟩
    by_cases e : id = i
    · subst e; exact hin x hi
    · rcases keep x hu.2 hu.1 with h | h
      · exact h
      · exact absurd (hr.apart id i x h hp) e
theorem Go1.trans {U2 : Nat → Prop} {ρ2 : Nat → Value} {h2 : List Blk} {w2 : World} (g : Go1 U ρ h w U1 ρ1 h1 w1) (g1 : Go1 U1 ρ1 h1 w1 U2 ρ2 h2 w2) : Go1 U ρ h w U2 ρ2 h2 w2 := by
  have hw : ∀ b, b < w.heap.size → Wr ρ1 h1 b → Wr ρ h b := fun b hb ⟨i, hi⟩ => (g.places i b hi).resolve_right (by omega); refine ⟨g.agree.trans g1.agree hw, fun b hb hu => g.less b hb (g1.less b (Nat.lt_of_lt_of_le hb g.agree.size) hu), fun b hb hu => ?_, g1.hr, g.ext.trans g1.ext, fun i x hi => ?_⟩
  · rcases g.keep b hb hu with h | h
    · exact (g1.keep b (Nat.lt_of_lt_of_le hb g.agree.size) h).imp (fun h => h) (hw b hb)
    · exact .inr h
  · rcases g1.places i x hi with ⟨j, hj⟩ | hj
    · exact g.places j x hj
    · exact .inr (Nat.le_trans g.agree.size hj)
end
end Go.Den
end
section
-- the texts that this claim needs, out of this session's and its print's (wip/shrink.py)
namespace Go.Den
open Go Go.RowKit
inductive TD where
  | other | bool | str
  | int (k : IntKind)
  | ptr (e : Nat)
  | slice (e : Nat)
  | arr (n e : Nat)
  | st (fs : List (Nat × Nat))
  deriving DecidableEq
def tdOf : TypeDesc → TD
  | .bool => .bool
  | .string => .str
  | .int k => .int k
  | .pointer e => .ptr e
  | .slice e => .slice e
  | .array n e => .arr n e
  | .struct fs => .st (fs.toList.map fun f => (f.offset, f.type))
  | _ => .other
structure TI where
  d : TD
  sz : Nat
  by_ : Nat
  z : List Value
  k : Option K
  q : List C → List C → Option Bool
def q0 : List C → List C → Option Bool := fun _ _ => none
def eqZ : List Value → List C → List C → Option Bool
  | [], cs, ds => match cs, ds with
    | [], [] => some true
    | _, _ => none
  | v :: z, cs, ds => match v, cs, ds with
    | .int k _, .int k1 a :: l, .int k2 b :: m => if k1 = k then (if k2 = k then (eqZ z l m).map fun r => (a == b) && r else none) else none
    | .string _, .str a :: l, .str b :: m => (eqZ z l m).map fun r => (a.toList == b.toList) && r
    | _, _, _ => none
theorem eqZ_nil {cs ds : List C} {r : Bool} (h : eqZ [] cs ds = some r) : cs = [] ∧ ds = [] ∧ r = true := by
  unfold eqZ at h; split at h
  · exact ⟨rfl, rfl, (Option.some.inj h).symm⟩
  · cases h
theorem eqZ_int {k : IntKind} {n : Int} {z : List Value} {cs ds : List C} {r : Bool} (h : eqZ (.int k n :: z) cs ds = some r) : ∃ a b l m r', cs = .int k a :: l ∧ ds = .int k b :: m ∧ eqZ z l m = some r' ∧ r = ((a == b) && r') := by
  unfold eqZ at h; split at h <;> try (cases h; done)
  · rename_i k' _ k1 a l k2 b m hv
    injection hv with e1 e2
    subst e1; split at h <;> try (cases h; done)
    rename_i hk1
    split at h <;> try (cases h; done)
    rename_i hk2
    subst hk1; subst hk2; obtain ⟨r', hr, he⟩ := Option.map_eq_some_iff.1 h; exact ⟨a, b, l, m, r', rfl, rfl, hr, he.symm⟩
  · rename_i hv; cases hv
theorem eqZ_str {s : ByteArray} {z : List Value} {cs ds : List C} {r : Bool} (h : eqZ (.string s :: z) cs ds = some r) : ∃ a b l m r', cs = .str a :: l ∧ ds = .str b :: m ∧ eqZ z l m = some r' ∧ r = ((a.toList == b.toList) && r') := by
  unfold eqZ at h; split at h <;> try (cases h; done)
  · rename_i hv; cases hv
  · rename_i a l b m hv
    obtain ⟨r', hr, he⟩ := Option.map_eq_some_iff.1 h; exact ⟨a, b, l, m, r', rfl, rfl, hr, he.symm⟩
def vC : Value → C
  | .int k n => .int k n
  | .bool b => .bool b
  | .string s => .str s
  | .slice none 0 0 => .nil
  | .pointer none => .nilp
  | _ => .dead
structure TOk (P : Program) (t : Nat) (i : TI) : Prop where
  info : (P.info? t).map (fun q => (q.zero.map (·.cells.toList), q.size, q.bytes)) = some (some i.z, i.sz, i.by_)
  und : (P.underlying t).map tdOf = some i.d
  ones : ∀ v ∈ i.z, v.oneCell' = true
  zl : i.z.length = i.sz
  kind : ∀ k, i.k = some k → k.sz = i.sz ∧ k.fit (i.z.map vC) = some (k.zero, [])
  eqv : ∀ {cs ds r}, i.q cs ds = some r → P.eqGuardType P.depth t = false ∧ ∀ {U ρ h w xs ys}, All2 (CR U ρ h w) cs xs → All2 (CR U ρ h w) ds ys → (Op.equal t (.agg xs.toArray) (.agg ys.toArray)).run P w = .ok r w
abbrev Tb := List (Nat × TI)
def Tb.at (tb : Tb) (t : Nat) : Option TI := match tb with
  | [] => none
  | (t', i) :: r => bif nb t' t then some i else Tb.at r t
def TbOk (P : Program) (tb : Tb) : Prop := ∀ p ∈ tb, TOk P p.1 p.2
theorem TbOk.at {P : Program} : ∀ {tb : Tb}, TbOk P tb → ∀ {t : Nat} {i : TI}, Tb.at tb t = some i → TOk P t i
  | [], _, t, i, h => by cases h
  | (t', j) :: r, ok, t, i, h => by
    unfold Tb.at at h
    cases hb : nb t' t with
    | true =>
      rw [hb] at h; obtain rfl := Option.some.inj h; obtain rfl := nb_eq hb
      exact ok (t', j) (by simp)
    | false =>
      rw [hb] at h; exact TbOk.at (tb := r) (fun p hp => ok p (by simp [hp])) h
section
variable {P : Program} {t : Nat} {i : TI}
theorem TOk.slice {e : Nat} (h : TOk P t i) (hd : i.d = .slice e) : P.underlying t = some (.slice e) := by
  have := h.und
  cases hu : P.underlying t with
  | none => rw [hu] at this; cases this
  | some d =>
    rw [hu, hd] at this; have h2 := Option.some.inj this
    cases d <;> simp only [tdOf, TD.slice.injEq, reduceCtorEq] at h2
    rw [h2]
theorem TOk.arr {n e : Nat} (h : TOk P t i) (hd : i.d = .arr n e) : P.underlying t = some (.array n e) := by
  have := h.und
  cases hu : P.underlying t with
  | none => rw [hu] at this; cases this
  | some d =>
    rw [hu, hd] at this; have h2 := Option.some.inj this
    cases d <;> simp only [tdOf, TD.arr.injEq, reduceCtorEq] at h2
    rw [h2.1, h2.2]
theorem TOk.int {k : IntKind} (h : TOk P t i) (hd : i.d = .int k) : P.underlying t = some (.int k) := by
  have := h.und
  cases hu : P.underlying t with
  | none => rw [hu] at this; cases this
  | some d =>
    rw [hu, hd] at this; have h2 := Option.some.inj this
    cases d <;> simp only [tdOf, TD.int.injEq, reduceCtorEq] at h2
    rw [h2]
theorem TOk.str (h : TOk P t i) (hd : i.d = .str) : P.underlying t = some .string := by
  have := h.und
  cases hu : P.underlying t with
  | none => rw [hu] at this; cases this
  | some d =>
    rw [hu, hd] at this; have h2 := Option.some.inj this
    cases d <;> simp only [tdOf, reduceCtorEq] at h2
    rfl
theorem TOk.st {fs : List (Nat × Nat)} (h : TOk P t i) (hd : i.d = .st fs) : ∃ fields, P.underlying t = some (.struct fields) ∧ fields.toList.map (fun f => (f.offset, f.type)) = fs := by
  have := h.und
  cases hu : P.underlying t with
  | none => rw [hu] at this; cases this
  | some d =>
    rw [hu, hd] at this; have h2 := Option.some.inj this
    cases d <;> simp only [tdOf, TD.st.injEq, reduceCtorEq] at h2
    exact ⟨_, rfl, h2⟩
theorem TOk.inf (h : TOk P t i) : ∃ q z, P.info? t = some q ∧ q.size = i.sz ∧ q.bytes = i.by_ ∧ q.zero = some z ∧ z.cells.toList = i.z := by
  have := h.info
  cases hu : P.info? t with
  | none => rw [hu] at this; cases this
  | some q =>
    rw [hu] at this; have h2 := Option.some.inj this; simp only [Prod.mk.injEq] at h2; obtain ⟨h2, h3, h4⟩ := h2
    cases hz : q.zero with
    | none => rw [hz] at h2; cases h2
    | some z =>
      rw [hz] at h2; exact ⟨q, z, rfl, h3, h4, hz, Option.some.inj h2⟩
theorem zlen (h : TOk P t i) : i.z.length = i.sz := h.zl
theorem TOk.sizeOf (h : TOk P t i) (w : World) : (sizeOf t).run P w = .ok i.sz w := by
  obtain ⟨q, z, h1, h2, _⟩ := h.inf; simp [Go.sizeOf, typeInfo, h1, h2]
def TD.agg : TD → Bool
  | .st _ => true
  | .arr _ _ => true
  | _ => false
theorem TOk.isAgg (h : TOk P t i) (w : World) : (isAgg t).run P w = .ok i.d.agg w := by
  have := h.und
  cases hu : P.underlying t with
  | none => rw [hu] at this; cases this
  | some d =>
    rw [hu] at this; have h2 := Option.some.inj this; simp only [Go.isAgg, Sem.run_bind, run_underlying hu, Result.andThen_ok]; rw [← h2]
    cases d <;> simp [tdOf, TD.agg]
end
section
variable {U : Nat → Prop} {ρ : Nat → Value} {h : List Blk} {w : World}
theorem CR.of_val {v : Value} (ho : v.oneCell' = true) : CR U ρ h w (vC v) v := by
  unfold vC; split
  · rfl
  · rfl
  · rfl
  · rfl
  · rfl
  · exact ho
theorem All2.of_vals {l : List Value} (ho : ∀ v ∈ l, v.oneCell' = true) : All2 (CR U ρ h w) (l.map vC) l := ⟨by simp, fun i a b ha hb => by
  rw [List.getElem?_map, hb] at ha; obtain rfl := Option.some.inj ha
  exact CR.of_val (ho b (List.mem_of_getElem? hb))⟩
theorem TOk.zero {P : Program} {t : Nat} {i : TI} {k : K} (ht : TOk P t i) (hk : i.k = some k) : KS U w k k.zero i.z := by
  obtain ⟨h1, h2⟩ := ht.kind k hk; have h3 := (fit_KS (U := U) (ρ := fun _ => undef) (h := []) (w := w) k h2 (All2.of_vals ht.ones))
  have hl := h3.2.left_nil
  have : i.z.take k.sz = i.z := by
    have := List.take_append_drop k.sz i.z; rw [hl, List.append_nil] at this; exact this
  rw [← this]; exact h3.1
def ValOk (P : Program) (U : Nat → Prop) (ρ : Nat → Value) (h : List Blk) (w : World) (e : Sem Value) (s : S) (h1 : List Blk) : Prop :=
  ∃ v w1 U1 ρ1, e.run P w = .ok v w1 ∧ Go1 U ρ h w U1 ρ1 h1 w1 ∧ SR U1 ρ1 h1 w1 s v
theorem ValOk.pure {P : Program} {e : Sem Value} {s : S} {v : Value} (hr : HR U ρ h w) (he : e.run P w = .ok v w) (hs : SR U ρ h w s v) : ValOk P U ρ h w e s h :=
  ⟨v, w, U, ρ, he, Go1.refl hr, hs⟩
def UnitOk (P : Program) (U : Nat → Prop) (ρ : Nat → Value) (h : List Blk) (w : World) (e : Sem Unit) (h1 : List Blk) : Prop :=
  ∃ w1 U1 ρ1, e.run P w = .ok () w1 ∧ Go1 U ρ h w U1 ρ1 h1 w1
def OpOk (P : Program) (U : Nat → Prop) (ρ : Nat → Value) (h : List Blk) (w : World) (e : Sem Next) (s : S) (h1 : List Blk) : Prop :=
  ∃ v w1 U1 ρ1, (e.run P w = .ok (.value v) w1 ∨ (e.run P w = .ok .skip w1 ∧ v = undef)) ∧ Go1 U ρ h w U1 ρ1 h1 w1 ∧ SR U1 ρ1 h1 w1 s v
theorem ValOk.op {P : Program} {e : Sem Value} {s : S} {h1 : List Blk} (hv : ValOk P U ρ h w e s h1) : OpOk P U ρ h w (do Pure.pure (Next.value (← e))) s h1 := by
  obtain ⟨v, w1, U1, ρ1, he, hg, hs⟩ := hv; exact ⟨v, w1, U1, ρ1, .inl (by simp [he]), hg, hs⟩
theorem UnitOk.op {P : Program} {e : Sem Unit} {h1 : List Blk} (hv : UnitOk P U ρ h w e h1) : OpOk P U ρ h w (do e; Pure.pure Next.skip) .undef h1 := by
  obtain ⟨w1, U1, ρ1, he, hg⟩ := hv; exact ⟨undef, w1, U1, ρ1, .inr ⟨by simp [he], rfl⟩, hg, trivial⟩
def binR (op : BinOp) (x y : S) : Option (S × Prop) :=
  match x, y with
  | .one (.int k a), .one (.int k' b) =>
    match op with
    | .shl => some (.one (.int k (k.wrap (a * 2 ^ min b.toNat k.bits))), 0 ≤ b)
    | .shr => some (.one (.int k (a.fdiv (2 ^ min b.toNat k.bits))), 0 ≤ b)
    | op => if k = k' then match op with
      | .add => some (.one (.int k (k.wrap (a + b))), True)
      | .sub => some (.one (.int k (k.wrap (a - b))), True)
      | .mul => some (.one (.int k (k.wrap (a * b))), True)
      | .quo => some (.one (.int k (k.wrap (a.tdiv b))), b ≠ 0)
      | .rem => some (.one (.int k (a.tmod b)), b ≠ 0)
      | .and => some (.one (.int k (k.wrap (BitVec.ofInt k.bits a &&& BitVec.ofInt k.bits b).toNat)), True)
      | .or => some (.one (.int k (k.wrap (BitVec.ofInt k.bits a ||| BitVec.ofInt k.bits b).toNat)), True)
      | .xor => some (.one (.int k (k.wrap (BitVec.ofInt k.bits a ^^^ BitVec.ofInt k.bits b).toNat)), True)
      | .andNot => some (.one (.int k (k.wrap (BitVec.ofInt k.bits a &&& ~~~ BitVec.ofInt k.bits b).toNat)), True)
      | .eql => some (.one (.bool (a == b)), True)
      | .neq => some (.one (.bool (a != b)), True)
      | .lss => some (.one (.bool (decide (a < b))), True)
      | .leq => some (.one (.bool (decide (a ≤ b))), True)
      | .gtr => some (.one (.bool (decide (a > b))), True)
      | .geq => some (.one (.bool (decide (a ≥ b))), True)
      | _ => none else none
  | .one (.str a), .one (.str b) =>
    match op with
    | .add => some (.one (.str (a ++ b)), a.size + b.size ≤ 9223372036854775807)
    | .eql => some (.one (.bool (a.toList == b.toList)), True)
    | .neq => some (.one (.bool (!(a.toList == b.toList))), True)
    | .lss => some (.one (.bool (Op.bytesLess a.toList b.toList)), True)
    | .leq => some (.one (.bool (Op.bytesLess a.toList b.toList || a.toList == b.toList)), True)
    | .gtr => some (.one (.bool (!(Op.bytesLess a.toList b.toList || a.toList == b.toList))), True)
    | .geq => some (.one (.bool (!(Op.bytesLess a.toList b.toList))), True)
    | _ => none
  | _, _ => none
theorem binR_ok {P : Program} {op : BinOp} {x y s : S} {p : Prop} {a b : Value} (hr : binR op x y = some (s, p)) (hp : p) (hx : SR U ρ h w x a) (hy : SR U ρ h w y b) (t : TypeId) (ox oy : Operand) :
    ∃ v, (do eqGuard op t ox oy a b; Go.binOp op t a b : Sem Value).run P w = .ok v w ∧ SR U ρ h w s v := by
  unfold binR at hr; split at hr
  · rename_i k a' k' b'
    obtain rfl : a = .int k a' := hx; obtain rfl : b = .int k' b' := hy
    cases op <;> simp only [] at hr
    case shl =>
      obtain ⟨rfl, rfl⟩ := (Prod.mk.injEq ..).mp (Option.some.inj hr); refine ⟨_, ?_, rfl⟩; simp [eqGuard, Go.binOp, Op.shift, Int.not_lt.2 hp]
    case shr =>
      obtain ⟨rfl, rfl⟩ := (Prod.mk.injEq ..).mp (Option.some.inj hr); refine ⟨_, ?_, rfl⟩; simp [eqGuard, Go.binOp, Op.shift, Int.not_lt.2 hp]
    all_goals (split at hr <;> try (cases hr; done))
    all_goals (rename_i hkk; subst hkk; obtain ⟨rfl, rfl⟩ := (Prod.mk.injEq ..).mp (Option.some.inj hr))
    all_goals (refine ⟨_, ?_, rfl⟩)
    all_goals (first | (simp [eqGuard, Go.binOp, Op.intArith, Op.intCmp, Op.intBits]; done) | (have hp' : b' ≠ 0 := hp; simp [eqGuard, Go.binOp, Op.intDiv, hp']; done))
  · rename_i a' b'
    obtain rfl : a = .string a' := hx; obtain rfl : b = .string b' := hy
    cases op <;> simp only [] at hr <;> try (cases hr; done)
    all_goals (obtain ⟨rfl, rfl⟩ := (Prod.mk.injEq ..).mp (Option.some.inj hr))
    all_goals (refine ⟨_, ?_, rfl⟩)
    all_goals (first | (simp [eqGuard, Go.binOp, Op.stringOp]; done) | (simp [eqGuard, Go.binOp]; exact run_string_add_sum _ _ _ hp))
  · cases hr
def eqR (tb : Tb) (op : BinOp) (t : Nat) (a b : List C) : Option Bool := match Tb.at tb t, op with
  | some i, .eql => i.q a b
  | some i, .neq => (i.q a b).map fun r => !r
  | _, _ => none
theorem eqR_ok {P : Program} {tb : Tb} {op : BinOp} {t : Nat} {a b : List C} {r : Bool} {x y : Value} (ok : TbOk P tb) (hr : eqR tb op t a b = some r) (hx : SR U ρ h w (.agg a) x) (hy : SR U ρ h w (.agg b) y) (ox oy : Operand) :
    (do eqGuard op t ox oy x y; Go.binOp op t x y : Sem Value).run P w = .ok (.bool r) w := by
  obtain ⟨xs, rfl, ha⟩ := hx; obtain ⟨ys, rfl, hb⟩ := hy; unfold eqR at hr; split at hr <;> try (cases hr; done)
  · rename_i i hi
    obtain ⟨h1, h2⟩ := (ok.at hi).eqv hr; have h3 := h2 ha hb; rw [Array.toArray_toList, Array.toArray_toList] at h3; simp [eqGuard, Go.binOp, program, h1, h3, Sem.run]
  · rename_i i hi
    obtain ⟨r', hr', rfl⟩ := Option.map_eq_some_iff.1 hr; obtain ⟨h1, h2⟩ := (ok.at hi).eqv hr'; have h3 := h2 ha hb; rw [Array.toArray_toList, Array.toArray_toList] at h3; simp [eqGuard, Go.binOp, program, h1, h3, Sem.run]
end
end Go.Den
end
section
-- the texts that this claim needs, out of this session's and its print's (wip/shrink.py)
namespace Go.Den
open Go Go.RowKit
theorem RowAt.of_owns {α : Type} {R : α → List Value → Prop} {w : World} {base n size : Nat} {e : TypeId} {v : Value} {ps : List α} {cs : List Value} (h : w.ownsRow base e size v n cs) (hR : Lie R size ps cs) (hn : ps.length = n) :
    ∃ A c, v = .slice A n c ∧ n ≤ c ∧ RowAt R size w A n ps := by
  rcases h.2 with ⟨rfl, rfl⟩ | ⟨g, cap, cur, rfl, hb, hg, hc, hm, hcs, ht⟩
  · exact ⟨none, 0, rfl, Nat.le_refl _, hn, by omega, fun hp => absurd hp (by omega)⟩
  · have hm' : n ≤ 9223372036854775807 := by simp only [maxLen] at hm; omega
    refine ⟨_, cap, rfl, hc, hn, hm', fun _ => ⟨_, rfl, fun j p hj => ⟨(cs.drop (j * size)).take size, ?_, hR.2 j p hj, fun i u hu => ?_⟩⟩⟩
    · have hjl := (List.getElem?_eq_some_iff.1 hj).1; have h1 : j * size + size ≤ cs.length := by rw [hR.1, ← Nat.succ_mul]; exact Nat.mul_le_mul_right _ hjl
      rw [List.length_take, List.length_drop]; omega
    · refine h.cells (g := g) rfl _ u ?_; rw [List.getElem?_take] at hu; split at hu
      · rw [List.getElem?_drop] at hu; exact hu
      · cases hu
theorem KS.of_owns {U U1 : Nat → Prop} {w : World} {e : Nat} {k : K} {v : Value} {xs : List k.T} {cs : List Value} (h : w.ownsRow 0 e k.sz v xs.length cs) (hR : Lie (KS U w k) k.sz xs cs) (hu : ∀ b, b < w.heap.size → U1 b → U b) (hn : ∀ g, v.ownBlock = some g → ¬ U1 g) : KS U1 w (.row e k) xs [v] := by
  intro w' hw; have h' : w'.ownsRow 0 e k.sz v xs.length cs := ownsRow_move h fun g hg => hw.block g (h.lt g hg).2 (hn g hg); have hR' : Lie (KR w' k) k.sz xs cs := hR.imp fun x c hc => hc w' (hw.mono hu); obtain ⟨A, c, rfl, hl, hr⟩ := RowAt.of_owns h' hR' rfl; exact ⟨A, c, rfl, hl, hr⟩
section
variable {P : Program} {U U1 : Nat → Prop} {ρ ρ1 : Nat → Value} {h h1 : List Blk} {w w1 : World}
theorem Go1.freeze (hr : HR U ρ h w) {id e : Nat} {k : K} {xs : List k.T} (hid : h[id]? = some (.row e k xs)) :
    Go1 U ρ h w (fun x => U x ∧ place ρ h id ≠ some x) ρ (h.set id (.frz e k xs)) w := by
  have hl : id < h.length := (List.getElem?_eq_some_iff.1 hid).1; refine Go1.set hr hid (Agree.refl _ _) (fun k' hk => ?_) (fun hx => ?_) (fun g hg => ?_) _ (fun x _ hx => hx.1) (fun x _ hx => ?_) (fun g hg => ?_) (fun tr ex => ?_)
  · simp [rowK, hl] at hk; simp only [rowK, hid]; rw [hk]
  · simp [isBox, hl] at hx
  · simp [place, hl] at hg
  · by_cases hp : place ρ h id = some x
    · exact .inr hp
    · exact .inl ⟨hx, hp⟩
  · simp [place, hl] at hg
  · obtain ⟨cs, h1, h2⟩ := hr.blk id _ hid; exact KS.of_owns h1 h2 (fun b _ hb => hb.1) (fun g hg hb => hb.2 (by simp [place, hid, hg]))
def snap : List C → List Blk → Option (List C × List Blk)
  | [], h => some ([], h)
  | .own id :: r, h => match h[id]? with
    | some (.row e k xs) => (snap r (h.set id (.frz e k xs))).map fun p => (.row e k xs :: p.1, p.2)
    | some (.frz e k xs) => (snap r h).map fun p => (.row e k xs :: p.1, p.2)
    | _ => none
  | c :: r, h => (snap r h).map fun p => (c :: p.1, p.2)
theorem snap_ok : ∀ (l : List C) {U : Nat → Prop} {h : List Blk} {p : List C × List Blk} {us : List Value}, snap l h = some p → HR U ρ h w → All2 (CR U ρ h w) l us → ∃ U1, Go1 U ρ h w U1 ρ p.2 w ∧ All2 (CR U1 ρ p.2 w) p.1 us
  | [], U, h, p, us, hs, hr, ha => by
    obtain rfl := Option.some.inj hs
    exact ⟨U, Go1.refl hr, ha⟩
  | c :: r, U, h, p, us, hs, hr, ha => by
    obtain ⟨u, us', rfl, hc, ht⟩ := ha.left_cons
    have plain : ((snap r h).map fun p => (c :: p.1, p.2)) = some p → ∃ U1, Go1 U ρ h w U1 ρ p.2 w ∧ All2 (CR U1 ρ p.2 w) p.1 (u :: us') := fun hs => by
      cases hq : snap r h with
      | none => rw [hq] at hs; cases hs
      | some q =>
        rw [hq] at hs; obtain rfl := Option.some.inj hs; obtain ⟨U1, g, a2⟩ := snap_ok r hq hr ht; exact ⟨U1, g, All2.cons (hc.tr (g.tr hr) g.ext) a2⟩
    cases c with
    | own id =>
      unfold snap at hs; split at hs
      · rename_i e k xs hid
        have g0 := Go1.freeze hr hid
        cases hq : snap r (h.set id (.frz e k xs)) with
        | none => rw [hq] at hs; cases hs
        | some q =>
          rw [hq] at hs; obtain rfl := Option.some.inj hs; obtain ⟨U1, g, a2⟩ := snap_ok r hq g0.hr (ht.imp fun _ _ x => x.tr (g0.tr hr) g0.ext); refine ⟨U1, g0.trans g, All2.cons ?_ a2⟩; have hu : u = ρ id := hc.2.2 k (by simp [rowK, hid]); have hb := g0.hr.blk id (.frz e k xs) (get_set (List.getElem?_eq_some_iff.1 hid).1); show KS U1 w (.row e k) xs [u]; rw [hu]; exact KS.tr (k := .row e k) hb (g.tr g0.hr)
      · rename_i e k xs hid
        cases hq : snap r h with
        | none => rw [hq] at hs; cases hs
        | some q =>
          rw [hq] at hs; obtain rfl := Option.some.inj hs; obtain ⟨U1, g, a2⟩ := snap_ok r hq hr ht; refine ⟨U1, g, All2.cons ?_ a2⟩; have hu : u = ρ id := hc.2.2 k (by simp [rowK, hid]); show KS U1 w (.row e k) xs [u]; rw [hu]; exact KS.tr (k := .row e k) (hr.blk id _ hid) (g.tr hr)
      · cases hs
    | _ => exact plain hs
def cellsOf : S → Option (List C)
  | .one c => some [c]
  | .agg l => some l
  | _ => none
theorem cells_one {v : Value} (h : v.oneCell' = true) : v.cells.toList = [v] := by
  cases v <;> first | rfl | cases h
theorem cellsOf_ok {s : S} {l : List C} {v : Value} (hs : cellsOf s = some l) (hr : SR U ρ h w s v) : All2 (CR U ρ h w) l v.cells.toList := by
  unfold cellsOf at hs; split at hs
  · obtain rfl := Option.some.inj hs; rw [cells_one (CR.one hr)]; exact All2.cons hr All2.nil
  · obtain rfl := Option.some.inj hs; obtain ⟨cs, rfl, ha⟩ := hr; exact ha
  · cases hs
def mkS (i : TI) (l : List C) : S := bif i.d.agg then .agg l else match l with
  | [c] => .one c
  | _ => .undef
theorem box_ok {t : Nat} {l : List C} {v : Value} (hr : HR U ρ h w) (hl : All2 (CR U ρ h w) l v.cells.toList) : ValOk P U ρ h w (Instr.box t v) (.one (.ptr h.length 0)) (h ++ [.box t l]) := by
  have hb : (w.alloc (.cells v.cells t)).heap[w.heap.size]? = some (.cells v.cells t (0, 0)) := heap_alloc_new w _; have ag : Agree (fun _ => False) w (w.alloc (.cells v.cells t)) := ⟨rfl, rfl, rfl, by simp, fun b hb _ => heap_alloc_old w _ hb⟩
  refine ⟨.pointer (some ⟨w.heap.size, 0, none⟩), w.alloc (.cells v.cells t), _, _, ?_, Go1.push (v := .pointer (some ⟨w.heap.size, 0, none⟩)) (g := some w.heap.size) hr ag ?_ (fun x hx => ?_) (fun U1 tr hu => ?_), ?_⟩
  · simp [Instr.box, newVar, newRow]
  · simp [place, upd_at, ptrBlk]
  · obtain rfl := Option.some.inj hx; simp
  · exact ⟨_, _, upd_at _ _ _, hb, hl.imp fun _ _ hc => hc.tr tr (Ext.push _ _ _ _)⟩
  · exact ⟨rfl, by simp, fun _ => ⟨_, upd_at _ _ _, rfl⟩⟩
end
end Go.Den
end
section
-- the texts that this claim needs, out of this session's and its print's (wip/shrink.py)
namespace Go.Den
open Go Go.RowKit
theorem seg_get {α : Type} (cs vs : List α) (o p : Nat) (h : o + vs.length ≤ cs.length) : (cs.take o ++ vs ++ cs.drop (o + vs.length))[p]? = if p < o then cs[p]? else if p < o + vs.length then vs[p - o]? else cs[p]? := by
  have ho : (cs.take o).length = o := by simp; omega
  by_cases h1 : p < o
  · rw [if_pos h1, List.append_assoc, List.getElem?_append_left (by omega), List.getElem?_take, if_pos h1]
  · rw [if_neg h1]
    by_cases h2 : p < o + vs.length
    · rw [if_pos h2, List.append_assoc, List.getElem?_append_right (by omega), ho, List.getElem?_append_left (by omega)]
    · rw [if_neg h2, List.getElem?_append_right (by simp; omega), List.getElem?_drop]; congr 1; simp; omega
theorem place_box {ρ : Nat → Value} {h : List Blk} {id t : Nat} {l : List C} (hid : h[id]? = some (.box t l)) : place ρ h id = ptrBlk (ρ id) := by simp only [place, hid]
theorem place_row {ρ : Nat → Value} {h : List Blk} {id e : Nat} {k : K} {xs : List k.T} (hid : h[id]? = some (.row e k xs)) : place ρ h id = (ρ id).ownBlock := by simp [place, hid]
theorem rowK_row {h : List Blk} {id e : Nat} {k : K} {xs : List k.T} (hid : h[id]? = some (.row e k xs)) : rowK h id = some k := by simp [rowK, hid]
theorem seg_length {α : Type} (cs vs : List α) (o : Nat) (h : o + vs.length ≤ cs.length) : (cs.take o ++ vs ++ cs.drop (o + vs.length)).length = cs.length := by
  rw [List.length_append, List.length_append, List.length_take, List.length_drop]; omega
section
variable {P : Program} {U U1 : Nat → Prop} {ρ ρ1 : Nat → Value} {h h1 : List Blk} {w w1 : World}
def addrCells (h : List Blk) : S → Option (List C × Prop)
  | .one (.ptr id off) => match h[id]? with
    | some (.box _ l) => some (l.drop off, True)
    | _ => none
  | .one (.at_ k x off) => some ((k.flat x).drop off, True)
  | .one (.elt id i off) => match h[id]? with
    | some (.row _ k xs) => some ((k.flat (xs.getD i k.zero)).drop off, i < xs.length)
    | _ => none
  | _ => none
theorem elem_of_lie {k : K} {xs : List k.T} {cs : List Value} {i : Nat} (hl : Lie (KS U w k) k.sz xs cs) (hi : i < xs.length) : KS U w k (xs.getD i k.zero) ((cs.drop (i * k.sz)).take k.sz) := by
  refine hl.2 i _ ?_; rw [List.getD_eq_getElem?_getD, List.getElem?_eq_getElem hi]; rfl
theorem addrCells_ok {s : S} {l : List C} {p : Prop} {v : Value} (hc : addrCells h s = some (l, p)) (hp : p) (hr : HR U ρ h w) (hs : SR U ρ h w s v) :
    ∃ ad us, v = .pointer (some ad) ∧ All2 (CR U ρ h w) l us ∧ ∀ j u, us[j]? = some u → w.cell? (ad.add j) = some u := by
  unfold addrCells at hc; split at hc
  · rename_i id off
    split at hc
    · rename_i t l' hid
      obtain ⟨rfl, rfl⟩ := (Prod.mk.injEq ..).mp (Option.some.inj hc); obtain ⟨g, arr, h1, h2, h3⟩ := hr.blk id _ hid; obtain ⟨g', hg', rfl⟩ := hs.2.2 (by simp [isBox, hid]); rw [h1] at hg'; injection hg' with hg'
      injection hg' with hg'
      injection hg' with hg'
      subst hg'; refine ⟨_, _, rfl, h3.drop off, fun j u hu => ?_⟩; rw [Addr.add_lit, cell_of_row w g (off + j) arr t (0, 0) h2]; rw [List.getElem?_drop] at hu; simpa using hu
    · cases hc
  · rename_i k x off
    obtain ⟨rfl, rfl⟩ := (Prod.mk.injEq ..).mp (Option.some.inj hc); obtain ⟨ad, cs, rfl, hk, hcell⟩ := hs; refine ⟨ad, cs.drop off, rfl, (flat_CR hk).drop off, fun j u hu => hcell j u (by rwa [List.getElem?_drop] at hu) w (Agree.refl _ _)⟩
  · rename_i id i off
    split at hc
    · rename_i e k xs hid
      obtain ⟨rfl, rfl⟩ := (Prod.mk.injEq ..).mp (Option.some.inj hc); obtain ⟨cs, h1, h2⟩ := hr.blk id _ hid; obtain ⟨g, n, c, hg, rfl⟩ := hs.2.2 k (by simp [rowK, hid]); refine ⟨_, _, rfl, (flat_CR (elem_of_lie h2 hp)).drop off, fun j u hu => ?_⟩; rw [List.getElem?_drop, List.getElem?_take] at hu; split at hu
      · rw [List.getElem?_drop] at hu; have := h1.cells (g := g) (by rw [hg]; rfl) _ u hu; rw [Addr.add_lit] at this ⊢; rw [← this]; congr 2; omega
      · cases hu
    · cases hc
  · cases hc
theorem run_load {t : Nat} {i : TI} {ad : Addr} {us : List Value} (ht : TOk P t i) (hl : us.length = i.sz) (h1 : i.d.agg = false → i.sz = 1) (hc : ∀ j u, us[j]? = some u → w.cell? (ad.add j) = some u) :
    (Instr.loadAt t (.pointer (some ad))).run P w = .ok (if i.d.agg = true then .agg us.toArray else us.getD 0 undef) w := by
  simp only [Instr.loadAt, Instr.sureAddr, Sem.run_bind, Sem.run_pure, Result.andThen_ok, loadVar, ht.isAgg w]
  cases hd : i.d.agg with
  | true =>
    have hll := run_loadCells_list (P := P) w ad us hc
    simp [ht.sizeOf w, ← hl, hll]
  | false =>
    have hz := h1 hd; rw [hz] at hl
    obtain ⟨u, rfl⟩ : ∃ u, us = [u] := by
      cases us with
      | nil => cases hl
      | cons u us => cases us with
        | nil => exact ⟨u, rfl⟩
        | cons _ _ => cases hl
    have := hc 0 u rfl; rw [Addr.add_zero'] at this; simp [load, Sem.run, this]
def loadR (tb : Tb) (t : Nat) (s : S) (h : List Blk) : Option (S × List Blk × Prop) :=
  match Tb.at tb t, addrCells h s with
  | some i, some (l, p) => match i.d.agg with
    | true => match nb (l.take i.sz).length i.sz with
      | true => match snap (l.take i.sz) h with
        | some q => some (.agg q.1, q.2, p)
        | none => none
      | false => none
    | false => match nb i.sz 1, l with
      | true, c :: _ => some (.one c, h, p)
      | _, _ => none
  | _, _ => none
theorem loadR_ok' {tb : Tb} {t : Nat} {s s1 : S} {p : Prop} {v : Value} (ok : TbOk P tb) (hl : loadR tb t s h = some (s1, h1, p)) (hp : p) (hr : HR U ρ h w) (hs : SR U ρ h w s v) : ∃ v1 U1, (Instr.loadAt t v).run P w = .ok v1 w ∧ Go1 U ρ h w U1 ρ h1 w ∧ SR U1 ρ h1 w s1 v1 := by
  unfold loadR at hl; split at hl
  · rename_i i l p' hi hc
    have ht := ok.at hi; split at hl
    · rename_i hd
      split at hl
      · rename_i hlen
        split at hl
        · rename_i q hq
          obtain ⟨rfl, h2⟩ := (Prod.mk.injEq ..).mp (Option.some.inj hl); obtain ⟨rfl, rfl⟩ := (Prod.mk.injEq ..).mp h2; obtain ⟨ad, us, rfl, ha, hcell⟩ := addrCells_ok hc hp hr hs; obtain ⟨U1, g, ha2⟩ := snap_ok _ hq hr (ha.take i.sz); have hlu : (us.take i.sz).length = i.sz := by rw [← (ha.take i.sz).1]; exact nb_eq hlen
          refine ⟨_, U1, run_load ht hlu (fun h => by rw [h] at hd; cases hd) (fun j u hu => ?_), g, ?_⟩
          · rw [List.getElem?_take] at hu; split at hu
            · exact hcell j u hu
            · cases hu
          · rw [if_pos hd]; exact ⟨_, rfl, ha2⟩
        · cases hl
      · cases hl
    · rename_i hd
      split at hl
      · rename_i c r hz
        obtain ⟨rfl, h2⟩ := (Prod.mk.injEq ..).mp (Option.some.inj hl); obtain ⟨rfl, rfl⟩ := (Prod.mk.injEq ..).mp h2; obtain ⟨ad, us, rfl, ha, hcell⟩ := addrCells_ok hc hp hr hs; have hz1 := nb_eq hz; obtain ⟨u, us', rfl, hcu, _⟩ := ha.left_cons; refine ⟨_, U, run_load (us := [u]) ht (by rw [hz1]; rfl) (fun _ => hz1) (fun j x hx => ?_), Go1.refl hr, ?_⟩
        · cases j with
          | zero => exact hcell 0 x (by simpa using hx)
          | succ j => simp at hx
        · rw [if_neg (by rw [hd]; decide)]; exact hcu
      · cases hl
  · cases hl
theorem loadR_ok {tb : Tb} {t : Nat} {s s1 : S} {p : Prop} {v : Value} (ok : TbOk P tb) (hl : loadR tb t s h = some (s1, h1, p)) (hp : p) (hr : HR U ρ h w) (hs : SR U ρ h w s v) : ValOk P U ρ h w (Instr.loadAt t v) s1 h1 := by
  obtain ⟨v1, U1, h1, h2, h3⟩ := loadR_ok' (P := P) ok hl hp hr hs; exact ⟨v1, w, U1, ρ, h1, h2, h3⟩
theorem run_store {t : Nat} {i : TI} {g o : Nat} {ty : TypeId} {arr : Array Value} {v : Value} (ht : TOk P t i) (hl : v.cells.toList.length = i.sz) (hg : w.heap[g]? = some (.cells arr ty (0, 0))) (hfit : o + v.cells.toList.length ≤ arr.size) (h1 : ∀ u ∈ v.cells.toList, u.oneCell' = true) :
    (Instr.storeAt t (.pointer (some ⟨g, o, none⟩)) v).run P w = .ok () (w.setRow g (arr.toList.take o ++ v.cells.toList ++ arr.toList.drop (o + v.cells.toList.length)).toArray) := by
  have hs := run_storeCells_at P g o ty v.cells.toList 0 arr w hg (by simpa using hfit) h1; simp only [Nat.add_zero] at hs; have hsz : ¬ (v.cells.size ≠ i.sz) := by simp at hl; simpa using hl
  simp [Instr.storeAt, Instr.sureAddr, storeVar, ht.sizeOf w, hsz, hs]
def storeR (tb : Tb) (t : Nat) (s x : S) (h : List Blk) : Option (List Blk × Prop) :=
  match Tb.at tb t, cellsOf x with
  | some i, some cs => match nb cs.length i.sz with
    | true => match s with
      | .one (.ptr id off) => match h[id]? with
        | some (.box ty l) => match nle (off + cs.length) l.length with
          | true => some (h.set id (.box ty (l.take off ++ cs ++ l.drop (off + cs.length))), True)
          | false => none
        | _ => none
      | .one (.elt id j off) => match snap cs h with
        | some (cs1, h1) => match h1[id]? with
          | some (.row e k xs) => match nle (off + cs1.length) k.sz, k.fit ((k.flat (xs.getD j k.zero)).take off ++ cs1 ++ (k.flat (xs.getD j k.zero)).drop (off + cs1.length)) with
            | true, some (y, []) => some (h1.set id (.row e k (xs.set j y)), j < xs.length)
            | _, _ => none
          | _ => none
        | none => none
      | _ => none
    | false => none
  | _, _ => none
theorem setRow_agree {g : Nat} (cs : Array Value) : Agree (fun x => x = g) w (w.setRow g cs) :=
  ⟨rfl, rfl, rfl, by simp, fun b _ hn => setRow_other w g b cs hn⟩
theorem All2.ones {l : List C} {us : List Value} (ha : All2 (CR U ρ h w) l us) : ∀ u ∈ us, u.oneCell' = true := fun u hu => by
  obtain ⟨i, hi⟩ := List.getElem?_of_mem hu; have hl : i < l.length := by rw [ha.1]; exact (List.getElem?_eq_some_iff.1 hi).1
  exact CR.one (ha.2 i l[i] u (List.getElem?_eq_getElem hl) hi)
theorem storeR_ok {tb : Tb} {t : Nat} {s x : S} {p : Prop} {v vx : Value} (ok : TbOk P tb) (hl : storeR tb t s x h = some (h1, p)) (hp : p) (hr : HR U ρ h w) (hs : SR U ρ h w s v) (hx : SR U ρ h w x vx) : UnitOk P U ρ h w (Instr.storeAt t v vx) h1 := by
  unfold storeR at hl; split at hl
  · rename_i i cs hi hcs
    have ht := ok.at hi; have ha := cellsOf_ok hcs hx; split at hl
    · rename_i hlen
      have hlv : vx.cells.toList.length = i.sz := by rw [← ha.1]; exact nb_eq hlen
      split at hl
      · rename_i id off
        split at hl
        · rename_i ty l hid
          split at hl
          · rename_i hble
            obtain ⟨rfl, rfl⟩ := (Prod.mk.injEq ..).mp (Option.some.inj hl); have hle : off + cs.length ≤ l.length := nle_le hble; obtain ⟨g, arr, e1, e2, e3⟩ := hr.blk id _ hid; obtain ⟨g', hg', rfl⟩ := hs.2.2 (by simp [isBox, hid]); rw [e1] at hg'; injection hg' with hg'
            injection hg' with hg'
            injection hg' with hg'
            subst hg'; have hpl : place ρ h id = some g := by simp [place, hid, e1, ptrBlk]
            have hrun := run_store (P := P) ht hlv e2 (by rw [← ha.1, ← Array.length_toList, ← e3.1]; exact hle) (All2.ones ha); refine ⟨_, _, _, hrun, Go1.set hr hid ((setRow_agree _).mono (fun x _ hx => by subst hx; exact hpl)) (fun k hk => ?_) (fun _ => by simp [isBox, hid]) (fun g1 hg1 => ?_) U (fun _ _ hu => hu) (fun _ _ hu => .inl hu) (fun g1 hg1 => ?_) (fun tr ex => ?_)⟩
            · simp [rowK, (List.getElem?_eq_some_iff.1 hid).1] at hk
            · rw [place_box (get_set (List.getElem?_eq_some_iff.1 hid).1)] at hg1; rw [place_box hid]; exact hg1
            · rw [place_box (get_set (List.getElem?_eq_some_iff.1 hid).1), ← place_box hid] at hg1; exact (hr.inU id g1 hg1).1
            · refine ⟨g, _, e1, setRow_heap w g arr _ ty _ e2, ?_⟩; show All2 _ _ _; rw [← ha.1]
              have q1 : All2 (CR U ρ (h.set id (.box ty (l.take off ++ cs ++ l.drop (off + cs.length)))) (w.setRow g (arr.toList.take off ++ vx.cells.toList ++ arr.toList.drop (off + cs.length)).toArray)) (l.take off ++ cs ++ l.drop (off + cs.length)) (arr.toList.take off ++ vx.cells.toList ++ arr.toList.drop (off + cs.length)) :=
                (((e3.take off).append ha).append (e3.drop _)).imp fun _ _ hc => hc.tr (by rw [← ha.1] at tr; exact tr) ex
              exact q1
          · cases hl
        · cases hl
      · rename_i id j off
        split at hl
        · rename_i cs1 h2 hsn
          obtain ⟨U2, g2, ha2⟩ := snap_ok _ hsn hr ha; split at hl
          · rename_i e k xs hid
            split at hl
            · rename_i y hble hfit
              obtain ⟨rfl, rfl⟩ := (Prod.mk.injEq ..).mp (Option.some.inj hl); have hle : off + cs1.length ≤ k.sz := nle_le hble; have hr2 := g2.hr; obtain ⟨us, e1, e2⟩ := hr2.blk id _ hid; have hs2 := SR.tr (g2.tr hr) g2.ext hs; obtain ⟨g, n, c, hg, rfl⟩ := hs2.2.2 k (by simp [rowK, hid]); have hlv2 : vx.cells.toList.length = cs1.length := ha2.1.symm; have hj : j * k.sz + k.sz ≤ us.length := by rw [e2.1, ← Nat.succ_mul]; exact Nat.mul_le_mul_right _ hp
              rcases e1.2 with ⟨hnil, _⟩ | ⟨g', cap, cur, hv, hb0, hheap, hc, hm, hcs, htake⟩
              · rw [hg] at hnil; cases hnil
              · rw [hg] at hv; injection hv with hv1 hv2 hv3
                injection hv1 with hv1
                injection hv1 with hv1
                subst hv1 hv2 hv3; have hus : us.length = xs.length * k.sz := e2.1; have hcur : us.length ≤ cur.size := by rw [← htake]; simp; omega
                have hcur2 : us.length ≤ cur.toList.length := by rw [Array.length_toList]; exact hcur
                have hpl : place ρ h2 id = some g := by simp [place, hid, hg, Value.ownBlock]
                have hrun := run_store (P := P) (o := j * k.sz + off) ht hlv hheap (by omega) (All2.ones ha); refine ⟨_, U2, ρ, hrun, g2.trans (Go1.set hr2 hid ((setRow_agree _).mono (fun x _ hx => by subst hx; exact hpl)) (fun k' hk => ?_) (fun hx => ?_) (fun g1 hg1 => ?_) U2 (fun _ _ hu => hu) (fun _ _ hu => .inl hu) (fun g1 hg1 => ?_) (fun tr ex => ?_))⟩
                · rw [rowK_row (get_set (List.getElem?_eq_some_iff.1 hid).1)] at hk; rw [rowK_row hid]; exact hk
                · simp [isBox, (List.getElem?_eq_some_iff.1 hid).1] at hx
                · rw [place_row (get_set (List.getElem?_eq_some_iff.1 hid).1)] at hg1; rw [place_row hid]; exact hg1
                · rw [place_row (get_set (List.getElem?_eq_some_iff.1 hid).1), ← place_row hid] at hg1; exact (hr2.inU id g1 hg1).1
                · have hvl : (us.take (j * k.sz + off) ++ vx.cells.toList ++ us.drop (j * k.sz + off + vx.cells.toList.length)).length = us.length := seg_length _ _ _ (by omega); refine ⟨us.take (j * k.sz + off) ++ vx.cells.toList ++ us.drop (j * k.sz + off + vx.cells.toList.length), ?_, ?_⟩
                  · refine ⟨by rw [hvl, List.length_set]; exact e1.1, .inr ⟨g, c, _, ?_, hb0, setRow_heap w g cur _ e _ hheap, by rw [List.length_set]; exact hc, hm, ?_, ?_⟩⟩
                    · rw [List.length_set]; exact hg
                    · rw [List.size_toArray, seg_length _ _ _ (by omega), Array.length_toList]; exact hcs
                    · apply List.ext_getElem?; intro q; rw [List.length_set, List.getElem?_take, List.toList_toArray, seg_get cur.toList _ _ _ (by omega), seg_get us _ _ _ (by omega)]
                      have hq : ∀ (hq : q < xs.length * k.sz), us[q]? = cur.toList[q]? := fun hq => by
                        rw [← htake, List.getElem?_take, if_pos hq]
                      by_cases hq1 : q < xs.length * k.sz
                      · rw [if_pos hq1, hq hq1]
                      · rw [if_neg hq1]; rw [if_neg (by omega), if_neg (by omega)]; rw [List.getElem?_eq_none (by omega)]
                  · refine ⟨by rw [hvl, List.length_set]; exact hus, fun m q hm' => ?_⟩; rw [List.getElem?_set] at hm'
                    by_cases hjm : j = m
                    · subst hjm; rw [if_pos rfl, if_pos hp] at hm'; obtain rfl := Option.some.inj hm'
                      have hfl : All2 (CR U2 ρ (h2.set id (.row e k (xs.set j y))) _) ((k.flat (xs.getD j k.zero)).take off ++ cs1 ++ (k.flat (xs.getD j k.zero)).drop (off + cs1.length)) (((us.drop (j * k.sz)).take k.sz).take off ++ vx.cells.toList ++ ((us.drop (j * k.sz)).take k.sz).drop (off + cs1.length)) :=
                        (((flat_CR (elem_of_lie e2 hp)).take off).append ha2 |>.append ((flat_CR (elem_of_lie e2 hp)).drop _)).imp fun _ _ hc => hc.tr tr ex
                      have hks := (fit_KS k hfit hfl).1; have hlen3 : ((us.drop (j * k.sz)).take k.sz).length = k.sz := by rw [List.length_take, List.length_drop]; omega
                      have hlen2 : (((us.drop (j * k.sz)).take k.sz).take off ++ vx.cells.toList ++ ((us.drop (j * k.sz)).take k.sz).drop (off + cs1.length)).length = k.sz := by rw [← hlv2, seg_length _ _ _ (by omega)]; exact hlen3
                      rw [List.take_of_length_le (Nat.le_of_eq hlen2)] at hks
                      have heq : ((us.take (j * k.sz + off) ++ vx.cells.toList ++ us.drop (j * k.sz + off + vx.cells.toList.length)).drop (j * k.sz)).take k.sz = ((us.drop (j * k.sz)).take k.sz).take off ++ vx.cells.toList ++ ((us.drop (j * k.sz)).take k.sz).drop (off + cs1.length) := by
                        apply List.ext_getElem?; intro q; rw [← hlv2, List.getElem?_take, List.getElem?_drop, seg_get _ _ _ _ (by omega), seg_get _ _ _ _ (by omega)]; simp only [List.getElem?_take, List.getElem?_drop]
                        by_cases h1 : q < k.sz
                        · rw [if_pos h1]
                          by_cases h2 : q < off
                          · rw [if_pos (by omega), if_pos h2]; simp [h1]
                          · rw [if_neg (by omega), if_neg h2]
                            by_cases h3 : q < off + vx.cells.toList.length
                            · rw [if_pos (by omega), if_pos h3]; congr 1; omega
                            · rw [if_neg (by omega), if_neg h3]; simp [h1]
                        · rw [if_neg h1, if_neg (by omega), if_neg (by omega)]; simp [h1]
                      rw [heq]; exact hks
                    · rw [if_neg hjm] at hm'; have hml := (List.getElem?_eq_some_iff.1 hm').1; have h0 := (e2.2 m q hm').tr tr
                      have heq : ((us.take (j * k.sz + off) ++ vx.cells.toList ++ us.drop (j * k.sz + off + vx.cells.toList.length)).drop (m * k.sz)).take k.sz = (us.drop (m * k.sz)).take k.sz := by
                        apply List.ext_getElem?; intro q; rw [List.getElem?_take, List.getElem?_take, List.getElem?_drop, List.getElem?_drop, seg_get _ _ _ _ (by omega)]
                        by_cases h1 : q < k.sz
                        · rw [if_pos h1, if_pos h1]; rcases Nat.lt_or_gt_of_ne hjm with h2 | h2
                          · have : j * k.sz + k.sz ≤ m * k.sz := by rw [← Nat.succ_mul]; exact Nat.mul_le_mul_right _ h2
                            rw [if_neg (by omega), if_neg (by omega)]
                          · have : m * k.sz + k.sz ≤ j * k.sz := by rw [← Nat.succ_mul]; exact Nat.mul_le_mul_right _ h2
                            rw [if_pos (by omega)]
                        · rw [if_neg h1, if_neg h1]
                      rw [heq]; exact h0
            · cases hl
          · cases hl
        · cases hl
      · cases hl
    · cases hl
  · cases hl
end
end Go.Den
end
