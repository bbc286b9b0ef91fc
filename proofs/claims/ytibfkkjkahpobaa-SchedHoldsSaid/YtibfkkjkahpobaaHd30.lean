import Derived.Test.YtibfkkjkahpobaaHd29
import Derived.IntWalk
set_option linter.unusedVariables false
set_option linter.unusedSimpArgs false
set_option maxHeartbeats 8000000
set_option maxRecDepth 100000
section
-- the texts that this claim needs, out of this session's and its print's (wip/shrink.py)
set_option linter.unnecessarySimpa false
namespace Go.Den
open Go Go.RowKit
def C.flat : C → Bool
  | .int _ _ => true
  | .bool _ => true
  | .str _ => true
  | _ => false
def C.val : C → Bool
  | .int _ _ => true
  | .bool _ => true
  | .str _ => true
  | .row _ _ _ => true
  | .nil => true
  | .fn _ [] => true
  | _ => false
def S.flat : S → Bool
  | .one c => c.flat
  | .agg l => l.all C.flat
  | .tup l => l.all fun p => p.2.all C.flat
  | _ => false
def closeArg (h : List Blk) : S → Option S
  | .one (.own id) => match h[id]? with
    | some (.row e k xs) => some (.one (.row e k xs))
    | some (.frz e k xs) => some (.one (.row e k xs))
    | _ => none
  | .one c => match c.val with
    | true => some (.one c)
    | false => none
  | .agg l => match l.all C.val with
    | true => some (.agg l)
    | false => none
  | _ => none
def closeArgs (h : List Blk) : List S → Option (List S)
  | [] => some []
  | s :: r => match closeArg h s, closeArgs h r with
    | some s', some r' => some (s' :: r')
    | _, _ => none
def snapIds (h : List Blk) : List S → List Nat
  | [] => []
  | .one (.own id) :: r => match h[id]? with
    | some (.row _ _ _) => id :: snapIds h r
    | _ => snapIds h r
  | _ :: r => snapIds h r
section
variable {P : Program} {cx : Cx} {U U1 : Nat → Prop} {ρ ρ1 : Nat → Value} {σ : St} {h h1 : List Blk} {a : Act} {w w1 : World}
theorem CR.of_val' {U1 : Nat → Prop} (ρ1 : Nat → Value) (h1 : List Blk) {c : C} {v : Value} (hv : c.val = true) (hu : ∀ b, b < w.heap.size → U1 b → U b) (hc : CR U ρ h w c v) : CR U1 ρ1 h1 w c v := by
  unfold C.val at hv; split at hv <;> first | exact hc | (exact KS.tr (k := .row _ _) hc ⟨Agree.refl _ _, hu⟩) | (cases hv; done) | skip
  obtain ⟨vs, hv', ha⟩ := hc
  exact ⟨vs, hv', by
    have := ha.left_nil
    rw [this]; exact All2.nil⟩
theorem CR.of_flat {U1 : Nat → Prop} (ρ1 : Nat → Value) (h1 : List Blk) (w1 : World) {c : C} {v : Value} (hv : c.flat = true) (hc : CR U ρ h w c v) : CR U1 ρ1 h1 w1 c v := by
  unfold C.flat at hv; split at hv <;> first | exact hc | cases hv
theorem All2.mem_imp {α β : Type} {R R' : α → β → Prop} {l : List α} {m : List β} (h : All2 R l m) (hr : ∀ a b, a ∈ l → R a b → R' a b) : All2 R' l m := ⟨h.1, fun i a b ha hb => hr a b (List.mem_of_getElem? ha) (h.2 i a b ha hb)⟩
theorem SR.of_flat {U1 : Nat → Prop} (ρ1 : Nat → Value) (h1 : List Blk) (w1 : World) {s : S} {v : Value} (hv : s.flat = true) (hs : SR U ρ h w s v) : SR U1 ρ1 h1 w1 s v := by
  cases s with
  | one c => exact CR.of_flat _ _ _ hv hs
  | agg l =>
    obtain ⟨cs, e, ha⟩ := hs
    exact ⟨cs, e, ha.mem_imp fun c u hc hr => CR.of_flat _ _ _ (List.all_eq_true.1 hv c hc) hr⟩
  | tup l =>
    obtain ⟨vs, e, ha⟩ := hs; refine ⟨vs, e, ha.mem_imp fun p u hp hr => ?_⟩; have hall := List.all_eq_true.1 hv p hp; unfold PartR at hr ⊢; split
    · rename_i hb
      rw [if_pos hb] at hr; obtain ⟨cs, e, ha⟩ := hr; exact ⟨cs, e, ha.mem_imp fun c u hc hr => CR.of_flat _ _ _ (List.all_eq_true.1 hall c hc) hr⟩
    · rename_i hb
      rw [if_neg hb] at hr; obtain ⟨c, e, hc⟩ := hr
      exact ⟨c, e, CR.of_flat _ _ _ (List.all_eq_true.1 hall c (by rw [e]; simp)) hc⟩
  | _ => cases hv
theorem closeArg_ok {U1 : Nat → Prop} (ρ1 : Nat → Value) (h1 : List Blk) {s s' : S} {v : Value} (hc : closeArg h s = some s') (hr : HR U ρ h w) (hu : ∀ b, b < w.heap.size → U1 b → U b) (hn : ∀ id g, id ∈ snapIds h [s] → place ρ h id = some g → ¬ U1 g) (hs : SR U ρ h w s v) : SR U1 ρ1 h1 w s' v := by
  unfold closeArg at hc; split at hc
  · rename_i id
    split at hc <;> try (cases hc; done)
    · rename_i e k xs hid
      obtain rfl := Option.some.inj hc; obtain ⟨cs, o1, o2⟩ := hr.blk _ _ hid; obtain rfl := hs.2.2 k (rowK_row hid); exact KS.of_owns o1 o2 hu (fun g hg => hn id g (by simp [snapIds, hid]) (by rw [place_row hid]; exact hg))
    · rename_i e k xs hid
      obtain rfl := Option.some.inj hc; obtain rfl := hs.2.2 k (by simp only [rowK, hid]); exact KS.tr (k := .row e k) (hr.blk _ _ hid) ⟨Agree.refl _ _, hu⟩
  · split at hc <;> try (cases hc; done)
    rename_i hv
    obtain rfl := Option.some.inj hc; exact CR.of_val' _ _ hv hu hs
  · split at hc <;> try (cases hc; done)
    rename_i hv
    obtain rfl := Option.some.inj hc; obtain ⟨cs, e, ha⟩ := hs; exact ⟨cs, e, ha.mem_imp fun c u hc hr => CR.of_val' _ _ (List.all_eq_true.1 hv c hc) hu hr⟩
  · cases hc
theorem snapIds_cons {s : S} {r : List S} {id : Nat} (h0 : id ∈ snapIds h [s] ∨ id ∈ snapIds h r) : id ∈ snapIds h (s :: r) := by
  cases s with
  | one c => cases c with
    | own i =>
      unfold snapIds; split
      · rename_i hi
        rcases h0 with h0 | h0
        · have : id = i := by simpa [snapIds, hi] using h0
          simp [this]
        · simp [h0]
      · rename_i hi
        rcases h0 with h0 | h0
        · unfold snapIds at h0; split at h0
          · rename_i e k xs hx; exact absurd hx (hi e k xs)
          · simp [snapIds] at h0
        · exact h0
    | _ => rcases h0 with h0 | h0 <;> simpa [snapIds] using h0
  | _ => rcases h0 with h0 | h0 <;> simpa [snapIds] using h0
theorem closeArgs_ok {U1 : Nat → Prop} (ρ1 : Nat → Value) (h1 : List Blk) : ∀ (l : List S) {l' : List S} {vs : List Value}, closeArgs h l = some l' → HR U ρ h w → (∀ b, b < w.heap.size → U1 b → U b) → (∀ id g, id ∈ snapIds h l → place ρ h id = some g → ¬ U1 g) → All2 (SR U ρ h w) l vs → All2 (SR U1 ρ1 h1 w) l' vs
  | [], l', vs, hc, hr, hu, hn, ha => by
    obtain rfl := Option.some.inj hc
    rw [ha.left_nil]; exact All2.nil
  | s :: r, l', vs, hc, hr, hu, hn, ha => by
    obtain ⟨v, vs', rfl, h2, h3⟩ := ha.left_cons; unfold closeArgs at hc; split at hc <;> try (cases hc; done)
    rename_i s' r' e1 e2
    obtain rfl := Option.some.inj hc; exact All2.cons (closeArg_ok ρ1 h1 e1 hr hu (fun id g hi => hn id g (snapIds_cons (.inl hi))) h2) (closeArgs_ok ρ1 h1 r e2 hr hu (fun id g hi => hn id g (snapIds_cons (.inr hi))) h3)
theorem HR.empty (U : Nat → Prop) (ρ : Nat → Value) (w : World) : HR U ρ [] w := ⟨fun id b hb => by simp at hb, fun i j g hi => by simp [place] at hi, fun i g hi => by simp [place] at hi⟩
theorem CallStep.pure {f : Nat} {xs xs' : List S} {s : S} {H1 : List Blk} (hs : CallStep P f xs' [] s H1) (hc : closeArgs h xs = some xs') (hf : s.flat = true) : CallStep P f xs h s h := by
  refine ⟨hs.enters, fun U ρ w vs hr ha => ?_⟩; have hx := closeArgs_ok (U1 := fun b => U b ∧ ¬ Wr ρ h b) ρ [] xs hc hr (fun b _ hb => hb.1) (fun id g _ hp hu => hu.2 ⟨id, hp⟩) ha; refine Calls.mono (hs.calls _ ρ w vs (HR.empty _ _ _) hx) ?_; rintro e w' ⟨v, U1, ρ1, rfl, g, hsr⟩; have ag : Agree (fun _ => False) w w' := g.agree.mono fun b _ ⟨i, hi⟩ => by simp [place] at hi
  exact ⟨v, _, ρ, rfl, Go1.alloc hr ag, SR.of_flat _ _ _ hf hsr⟩
def C.shift (n : Nat) : C → C
  | .own id => .own (id + n)
  | .sub id lo hi => .sub (id + n) lo hi
  | .ptr id off => .ptr (id + n) off
  | .elt id i off => .elt (id + n) i off
  | .fn f caps => .fn f (caps.map (· + n))
  | c => c
def S.shift (n : Nat) : S → S
  | .undef => .undef
  | .one c => .one (c.shift n)
  | .agg l => .agg (l.map (C.shift n))
  | .tup l => .tup (l.map fun p => (p.1, p.2.map (C.shift n)))
  | .grd b s => .grd b (s.shift n)
  | .raw v => .raw v
def Blk.shift (n : Nat) : Blk → Blk
  | .box t l => .box t (l.map (C.shift n))
  | b => b
def ρjoin (ρ : Nat → Value) (n : Nat) (ρ1 : Nat → Value) : Nat → Value := fun i => if i < n then ρ i else ρ1 (i - n)
def hjoin (h h1 : List Blk) : List Blk := h ++ h1.map (Blk.shift h.length)
theorem join_lt {i : Nat} (hi : i < h.length) : (hjoin h h1)[i]? = h[i]? := List.getElem?_append_left hi
theorem join_ge (i : Nat) : (hjoin h h1)[i + h.length]? = (h1[i]?).map (Blk.shift h.length) := by
  unfold hjoin; rw [List.getElem?_append_right (by omega), Nat.add_sub_cancel, List.getElem?_map]
theorem rowK_ge (i : Nat) : rowK (hjoin h h1) (i + h.length) = rowK h1 i := by
  unfold rowK; rw [join_ge]
  cases h1[i]? with
  | none => rfl
  | some b => cases b <;> rfl
theorem isBox_ge (i : Nat) : isBox (hjoin h h1) (i + h.length) = isBox h1 i := by
  unfold isBox; rw [join_ge]
  cases h1[i]? with
  | none => rfl
  | some b => cases b <;> rfl
theorem ρjoin_ge (i n : Nat) : ρjoin ρ n ρ1 (i + n) = ρ1 i := by unfold ρjoin; rw [if_neg (by omega), Nat.add_sub_cancel]
theorem ρjoin_lt {i n : Nat} (hi : i < n) : ρjoin ρ n ρ1 i = ρ i := by unfold ρjoin; rw [if_pos hi]
theorem place_ge (i : Nat) : place (ρjoin ρ h.length ρ1) (hjoin h h1) (i + h.length) = place ρ1 h1 i := by
  unfold place; rw [join_ge, ρjoin_ge]
  cases h1[i]? with
  | none => rfl
  | some b => cases b <;> rfl
theorem place_lt' {i : Nat} (hi : i < h.length) : place (ρjoin ρ h.length ρ1) (hjoin h h1) i = place ρ h i := by
  unfold place; rw [join_lt hi, ρjoin_lt hi]
theorem len_join : (hjoin h h1).length = h.length + h1.length := by simp [hjoin]
theorem CR.shift {c : C} {v : Value} (hc : CR U ρ1 h1 w c v) : CR U (ρjoin ρ h.length ρ1) (hjoin h h1) w (c.shift h.length) v := by
  cases c with
  | own id => exact ⟨hc.1, by rw [len_join]; have := hc.2.1; omega, fun k hk => by rw [rowK_ge] at hk; rw [ρjoin_ge]; exact hc.2.2 k hk⟩
  | sub id lo hi => exact ⟨hc.1, by rw [len_join]; have := hc.2.1; omega, fun k hk => by rw [rowK_ge] at hk; rw [ρjoin_ge]; exact hc.2.2 k hk⟩
  | ptr id off => exact ⟨hc.1, by rw [len_join]; have := hc.2.1; omega, fun hk => by rw [isBox_ge] at hk; rw [ρjoin_ge]; exact hc.2.2 hk⟩
  | elt id i off => exact ⟨hc.1, by rw [len_join]; have := hc.2.1; omega, fun k hk => by rw [rowK_ge] at hk; rw [ρjoin_ge]; exact hc.2.2 k hk⟩
  | fn f caps =>
    obtain ⟨vs, rfl, ha⟩ := hc; refine ⟨vs, rfl, by simpa using ha.1, fun i j u hj hu => ?_⟩; rw [List.getElem?_map] at hj
    cases hq : caps[i]? with
    | none => rw [hq] at hj; cases hj
    | some id =>
      rw [hq] at hj; obtain rfl := Option.some.inj hj; obtain ⟨a1, a2, a3⟩ := ha.2 i id u hq hu
      exact ⟨a1, by rw [len_join]; show id + h.length < _; omega, fun hb => by rw [isBox_ge] at hb; rw [ρjoin_ge]; exact a3 hb⟩
  | _ => exact hc
theorem All2.shift {l : List C} {us : List Value} (ha : All2 (CR U ρ1 h1 w) l us) : All2 (CR U (ρjoin ρ h.length ρ1) (hjoin h h1) w) (l.map (C.shift h.length)) us := ⟨by simpa using ha.1, fun i c v hc hv => by
  rw [List.getElem?_map] at hc
  cases hq : l[i]? with
  | none => rw [hq] at hc; cases hc
  | some c0 =>
    rw [hq] at hc; obtain rfl := Option.some.inj hc
    exact (ha.2 i c0 v hq hv).shift⟩
theorem SR.shift : ∀ {s : S} {v : Value}, SR U ρ1 h1 w s v → SR U (ρjoin ρ h.length ρ1) (hjoin h h1) w (s.shift h.length) v
  | .undef, _, _ => trivial
  | .one c, _, hs => CR.shift hs
  | .agg l, _, ⟨us, hv, ha⟩ => ⟨us, hv, ha.shift⟩
  | .tup l, _, ⟨vs, hv, ha⟩ => ⟨vs, hv, by simpa using ha.1, fun i p v hp hv' => by
      rw [List.getElem?_map] at hp
      cases hq : l[i]? with
      | none => rw [hq] at hp; cases hp
      | some p0 =>
        rw [hq] at hp; obtain rfl := Option.some.inj hp; have := ha.2 i p0 v hq hv'; unfold PartR at this ⊢; split
        · rename_i hb
          rw [if_pos hb] at this; obtain ⟨cs, hv, ha⟩ := this; exact ⟨cs, hv, ha.shift⟩
        · rename_i hb
          rw [if_neg hb] at this; obtain ⟨c, hv, ha⟩ := this
          exact ⟨c.shift h.length, by show p0.2.map _ = _; rw [hv]; rfl, ha.shift⟩⟩
  | .grd b s, _, hs => ⟨fun hb => SR.shift (hs.1 hb), hs.2⟩
  | .raw _, _, hs => hs
theorem Go1.join {ρ0 : Nat → Value} (hr : HR U ρ h w) (g : Go1 U ρ0 [] w U1 ρ1 h1 w1) : Go1 U ρ h w U1 (ρjoin ρ h.length ρ1) (hjoin h h1) w1 := by
  have ag : Agree (fun _ => False) w w1 := g.agree.mono fun b _ ⟨i, hi⟩ => by simp [place] at hi
  have tr : Tr U w U1 w1 := ⟨ag.mono (fun _ _ h => h.elim), g.less⟩
  have hkeep : ∀ b, b < w.heap.size → U b → U1 b := fun b hb hu => (g.keep b hb hu).resolve_right fun ⟨i, hi⟩ => by simp [place] at hi
  have hnew : ∀ i x, place ρ1 h1 i = some x → w.heap.size ≤ x := fun i x hi => (g.places i x hi).resolve_left fun ⟨i, hi⟩ => by simp [place] at hi
  have ex : Ext ρ h (ρjoin ρ h.length ρ1) (hjoin h h1) := ⟨by rw [len_join]; omega, fun i k hi hk => ⟨by unfold rowK at hk ⊢; rwa [join_lt hi] at hk, ρjoin_lt hi⟩, fun i hi hk => ⟨by unfold isBox at hk ⊢; rwa [join_lt hi] at hk, ρjoin_lt hi⟩⟩
  have split : ∀ i x, place (ρjoin ρ h.length ρ1) (hjoin h h1) i = some x → (i < h.length ∧ place ρ h i = some x) ∨ ∃ j, i = j + h.length ∧ place ρ1 h1 j = some x := fun i x hi => by
    rcases Nat.lt_or_ge i h.length with hl | hl
    · rw [place_lt' hl] at hi; exact .inl ⟨hl, hi⟩
    · refine .inr ⟨i - h.length, by omega, ?_⟩; rw [← place_ge (ρ := ρ) (h := h), Nat.sub_add_cancel hl]; exact hi
  refine ⟨ag.mono (fun _ _ h => h.elim), g.less, fun b hb hu => .inl (hkeep b hb hu), ⟨fun i b hb => ?_, fun i j x hi hj => ?_, fun i x hi => ?_⟩, ex, fun i x hi => ?_⟩
  · rcases Nat.lt_or_ge i h.length with hl | hl
    · rw [join_lt hl] at hb; exact (hr.blk i b hb).tr hb tr ex (fun _ _ e => by subst e; exact ρjoin_lt hl) (fun x hx => ag.block x (hr.inU i x hx).2 (fun h => h))
    · have hi : i = (i - h.length) + h.length := by omega
      rw [hi, join_ge] at hb
      cases hq : h1[i - h.length]? with
      | none => rw [hq] at hb; cases hb
      | some b0 =>
        rw [hq] at hb; obtain rfl := Option.some.inj hb; have hbr := g.hr.blk _ _ hq; rw [hi]
        cases b0 with
        | box t l =>
          obtain ⟨gg, arr, e1, e2, e3⟩ := hbr
          exact ⟨gg, arr, by rw [ρjoin_ge]; exact e1, e2, e3.shift⟩
        | row e k xs =>
          obtain ⟨cs, e1, e2⟩ := hbr
          exact ⟨cs, by rw [ρjoin_ge]; exact e1, e2⟩
        | frz e k xs =>
          show KS U1 w1 _ _ [ρjoin ρ h.length ρ1 _]
          rw [ρjoin_ge]; exact hbr
        | dead => trivial
  · rcases split i x hi with ⟨h2, h3⟩ | ⟨i', e1, h3⟩ <;> rcases split j x hj with ⟨g2, g3⟩ | ⟨j', e2, g3⟩
    · exact hr.apart i j x h3 g3
    · have := (hr.inU i x h3).2; have := hnew j' x g3; omega
    · have := (hr.inU j x g3).2; have := hnew i' x h3; omega
    · rw [e1, e2, g.hr.apart i' j' x h3 g3]
  · rcases split i x hi with ⟨h2, h3⟩ | ⟨i', e1, h3⟩
    · have := hr.inU i x h3; exact ⟨hkeep x this.2 this.1, Nat.lt_of_lt_of_le this.2 ag.size⟩
    · exact g.hr.inU i' x h3
  · rcases split i x hi with ⟨h2, h3⟩ | ⟨i', e1, h3⟩
    · exact .inl ⟨i, h3⟩
    · exact .inr (hnew i' x h3)
def freezeL : List Nat → List Blk → List Blk
  | [], h => h
  | id :: r, h => match h[id]? with
    | some (.row e k xs) => freezeL r (h.set id (.frz e k xs))
    | _ => freezeL r h
theorem freezeL_ok : ∀ (l : List Nat) {U : Nat → Prop} {h : List Blk}, HR U ρ h w → ∃ U1, Go1 U ρ h w U1 ρ (freezeL l h) w ∧ ∀ id g, id ∈ l → place ρ h id = some g → isBox h id = false → ¬ U1 g
  | [], U, h, hr => ⟨U, Go1.refl hr, fun id g hi => by cases hi⟩
  | id :: r, U, h, hr => by
    unfold freezeL; split
    · rename_i e k xs hid
      have g0 := Go1.freeze hr hid; obtain ⟨U1, g1, hn⟩ := freezeL_ok r g0.hr; refine ⟨U1, g0.trans g1, fun i x hi hp hb hu => ?_⟩
      by_cases e1 : i = id
      · subst e1; exact (g1.less x (hr.inU i x hp).2 hu).2 hp
      · rcases List.mem_cons.1 hi with h2 | h2
        · exact e1 h2
        · refine hn i x h2 ?_ ?_ hu
          · simpa [place, get_set_ne (Ne.symm e1)] using hp
          · simpa [isBox, get_set_ne (Ne.symm e1)] using hb
    · rename_i hne
      obtain ⟨U1, g1, hn⟩ := freezeL_ok r hr; refine ⟨U1, g1, fun i x hi hp hb hu => ?_⟩; rcases List.mem_cons.1 hi with h2 | h2
      · subst h2; unfold place at hp; split at hp
        · rename_i e k xs hx; exact hne e k xs hx
        · rename_i hx; unfold isBox at hb; rw [hx] at hb; cases hb
        · cases hp
      · exact hn i x h2 hp hb hu
theorem snapIds_row : ∀ (l : List S) {id : Nat}, id ∈ snapIds h l → isBox h id = false
  | [], id, hi => by cases hi
  | s :: r, id, hi => by
    have : id ∈ snapIds h r ∨ ∃ e k xs, h[id]? = some (.row e k xs) := by
      cases s with
      | one c => cases c with
        | own i =>
          unfold snapIds at hi; split at hi
          · rename_i e k xs hx
            rcases List.mem_cons.1 hi with h2 | h2
            · subst h2; exact .inr ⟨e, k, xs, hx⟩
            · exact .inl h2
          · exact .inl hi
        | _ => exact .inl (by simpa [snapIds] using hi)
      | _ => exact .inl (by simpa [snapIds] using hi)
    rcases this with h2 | ⟨e, k, xs, h2⟩
    · exact snapIds_row r h2
    · unfold isBox; rw [h2]
theorem CallStep.rows {f : Nat} {xs xs' : List S} {s : S} {H1 : List Blk} (hs : CallStep P f xs' [] s H1) (hc : closeArgs h xs = some xs') : CallStep P f xs h (s.shift (freezeL (snapIds h xs) h).length) (hjoin (freezeL (snapIds h xs) h) H1) := by
  refine ⟨hs.enters, fun U ρ w vs hr ha => ?_⟩; obtain ⟨U1, g1, hn⟩ := freezeL_ok (snapIds h xs) hr; have hx := closeArgs_ok (U1 := U1) ρ [] xs hc hr g1.less (fun id g hi hp => hn id g hi hp (snapIds_row xs hi)) ha; refine Calls.mono (hs.calls _ ρ w vs (HR.empty _ _ _) hx) ?_; rintro e w' ⟨v, U2, ρ2, rfl, g2, hsr⟩; exact ⟨v, _, _, rfl, g1.trans (Go1.join g1.hr g2), hsr.shift⟩
end
end Go.Den
end
section
-- the texts that this claim needs, out of this session's and its print's (wip/shrink.py)
namespace Go.Den
open Go Go.RowKit
section
variable {P : Program} {cx : Cx} {U U1 : Nat → Prop} {ρ ρ1 : Nat → Value} {σ : St} {h h1 : List Blk} {a : Act} {w w1 : World} {ops : Array Oper}
def tmpsOf : List Operand → List Nat
  | [] => []
  | x :: r => match x with
    | .tmp t => t :: tmpsOf r
    | .const _ => tmpsOf r
    | .global _ => tmpsOf r
    | .func _ => tmpsOf r
def dstOf (ops : Array Oper) (j : Nat) : Option Nat := match ops[j]? with
  | some o => o.dst
  | none => none
def readsOf (ops : Array Oper) (o : Oper) : List Nat := tmpsOf (opnds o.op) ++ match o.guard with
  | some (j, _) => (dstOf ops j).toList
  | none => []
def onlyE (e : List (Nat × S)) : List Nat → List (Nat × S)
  | [] => []
  | t :: r => (t, look e t) :: onlyE e r
def St.only (σ : St) (ts : List Nat) : St := { σ with env := onlyE σ.env ts }
theorem look_only (σ : St) (t : Nat) : ∀ ts : List Nat, look (onlyE σ.env ts) t = if t ∈ ts then σ.get t else .undef
  | [] => by simp [look, onlyE]
  | t' :: r => by
    show (bif nb t' t then σ.get t' else look (onlyE σ.env r) t) = _
    cases hb : nb t' t with
    | true =>
      obtain rfl := nb_eq hb
      simp
    | false =>
      have hne := nb_ne hb; show look (onlyE σ.env r) t = _; rw [look_only σ t r]; simp [Ne.symm hne]
theorem R0.of_get {σ' : St} (r : R0 cx U ρ σ' a w) (hh : σ'.heap = σ.heap) (hn : σ'.n = σ.n) (hg : ∀ t, σ.get t = σ'.get t ∨ σ.get t = .undef) : R0 cx U ρ σ a w where
  size := by rw [← hn]; exact r.size
  defers := r.defers
  env t := by
    rcases hg t with hg | hg
    · rw [hg, ← hh]; exact r.env t
    · rw [hg]; trivial
  hr := by rw [← hh]; exact r.hr
  agree := r.agree
  newU := r.newU
  oldU := r.oldU
  places := by rw [← hh]; exact r.places
  ext := by rw [← hh]; exact r.ext
theorem R.of_get {σ' : St} (r : R cx σ' a w) (hh : σ'.heap = σ.heap) (hn : σ'.n = σ.n) (hg : ∀ t, σ.get t = σ'.get t ∨ σ.get t = .undef) : R cx σ a w := by
  obtain ⟨U, ρ, r⟩ := r; exact ⟨U, ρ, r.of_get hh hn hg⟩
theorem R0.only (r : R0 cx U ρ σ a w) (ts : List Nat) : R0 cx U ρ (σ.only ts) a w := r.of_get rfl rfl fun t => by
  show look (onlyE σ.env ts) t = _ ∨ look (onlyE σ.env ts) t = _; rw [look_only]; split
  · exact .inl rfl
  · exact .inr rfl
theorem only_congr {σ' : St} {ts : List Nat} (hh : σ'.heap = σ.heap) (hn : σ'.n = σ.n) (hg : ∀ t ∈ ts, σ'.get t = σ.get t) : σ'.only ts = σ.only ts := by
  unfold St.only
  have : ∀ ts : List Nat, (∀ t ∈ ts, σ'.get t = σ.get t) → onlyE σ'.env ts = onlyE σ.env ts := fun ts => by
    induction ts with
    | nil => intro _; rfl
    | cons t r ih =>
      intro h; show (t, look σ'.env t) :: _ = (t, look σ.env t) :: _; rw [ih fun t ht => h t (by simp [ht]), show look σ'.env t = look σ.env t from h t (by simp)]
  have := this ts hg; rw [this]
  cases σ; cases σ'
  simp only at hh hn; simp [hh, hn]
def stepA (P : Program) (tb : Tb) (ops : Array Oper) (ow : Bool) (o : Oper) (σ : St) (K : S → List Blk → Prop) : Prop := match o.guard with
  | none => opW P tb ow o σ K
  | some (j, want) => match guardOf σ ops j want with
    | some g => opG P tb ow o g σ fun s => K s σ.heap
    | none => False
theorem stepA_ok {tb : Tb} {ow : Bool} {i : Nat} {o : Oper} {K : S → List Blk → Prop} {Q : Exit → Act → World → Prop} {K' : Act → World → Prop} (ok : TbOk P tb) (hi : ops[i]? = some o) (hw : stepA P tb ops ow o σ K) (r : R0 cx U ρ σ a w)
    (hk : ∀ s h1 v w1 U1 ρ1, K s h1 → Go1 U ρ σ.heap w U1 ρ1 h1 w1 → SR U1 ρ1 h1 w1 s v → K' (a.put o.dst v) w1) : wpOp P ops Q i K' a w := by
  unfold wpOp; simp only [hi]; unfold stepA at hw; split at hw
  · rename_i hgd
    have hwant : Region.wanted o (yielded ops a.tmps) = true := by unfold Region.wanted; rw [hgd]
    rw [if_pos hwant]; exact .inl (opW_ok ok hw r hk)
  · rename_i j want hgd
    split at hw <;> try (exact hw.elim)
    rename_i g hg
    have hy := guardOf_ok hg r; have hwant : Region.wanted o (yielded ops a.tmps) = g := by unfold Region.wanted; rw [hgd]; exact hy
    rw [hwant]
    cases g with
    | false =>
      simp only [Bool.false_eq_true, if_false]; have hu : ∀ s, SR U ρ σ.heap w (.grd false s) undef := fun s => ⟨(fun h => by cases h), (fun _ => rfl)⟩
      unfold opG at hw; split at hw
      · split at hw <;> try (exact hw.elim)
        obtain ⟨s, hw⟩ := hw; exact hk _ _ _ _ _ _ hw.2 (Go1.refl r.hr) (hu s)
      · split at hw <;> try (exact hw.elim)
        exact hk _ _ _ _ _ _ hw.2 (Go1.refl r.hr) (hu _)
    | true =>
      rw [if_pos rfl]; refine .inl ?_; unfold opG at hw; split at hw
      · rename_i c hc
        split at hw <;> try (exact hw.elim)
        rename_i f caps hcal
        obtain ⟨s, hs, hks⟩ := hw; obtain ⟨hgp, hs⟩ := hs rfl; exact wp_call hc hcal hgp hs r fun v w1 U1 ρ1 g hsr => hk _ _ _ _ _ _ hks g ⟨fun _ => hsr, fun h => by cases h⟩
      · split at hw <;> try (exact hw.elim)
        rename_i s h1 p ho
        obtain ⟨hp0, hks⟩ := hw; obtain ⟨hgp, hp, rfl⟩ := hp0 rfl; obtain ⟨v, w1, U1, ρ1, hrun, g, hsr⟩ := opR_ok (P := P) (ev := a.eval) ok ho hp r.hr r.ev hgp; have hsr' : SR U1 ρ1 σ.heap w1 (.grd true s) v := ⟨fun _ => hsr, fun h => by cases h⟩
        unfold Oper.wp; rcases hrun with hrun | ⟨hrun, rfl⟩
        · rw [hrun]; exact hk _ _ _ _ _ _ hks g hsr'
        · rw [hrun]; exact hk _ _ _ _ _ _ hks g hsr'
theorem opW_ex {tb : Tb} {ow : Bool} {o : Oper} {K : S → List Blk → Prop} (hw : opW P tb ow o σ K) : ∃ s h1, opW P tb ow o σ (fun s' h' => s' = s ∧ h' = h1) ∧ K s h1 := by
  unfold opW at hw ⊢; split at hw
  · split at hw <;> try (exact hw.elim)
    obtain ⟨hg, s, h1, hs, hk⟩ := hw; exact ⟨s, h1, ⟨hg, s, h1, hs, rfl, rfl⟩, hk⟩
  · split at hw <;> try (exact hw.elim)
    obtain ⟨hg, hp, hk⟩ := hw; exact ⟨_, _, ⟨hg, hp, rfl, rfl⟩, hk⟩
theorem opG_ex {tb : Tb} {ow g : Bool} {o : Oper} {K : S → Prop} (hw : opG P tb ow o g σ K) : ∃ s, opG P tb ow o g σ (fun s' => s' = s) ∧ K s := by
  unfold opG at hw ⊢; split at hw
  · split at hw <;> try (exact hw.elim)
    obtain ⟨s, hs, hk⟩ := hw; exact ⟨_, ⟨s, hs, rfl⟩, hk⟩
  · split at hw <;> try (exact hw.elim)
    obtain ⟨hp, hk⟩ := hw; exact ⟨_, ⟨hp, rfl⟩, hk⟩
theorem stepA_ex {tb : Tb} {ow : Bool} {o : Oper} {K : S → List Blk → Prop} (hw : stepA P tb ops ow o σ K) : ∃ s h1, stepA P tb ops ow o σ (fun s' h' => s' = s ∧ h' = h1) ∧ K s h1 := by
  unfold stepA at hw ⊢; split at hw
  · exact opW_ex hw
  · split at hw <;> try (exact hw.elim)
    obtain ⟨s, hs, hk⟩ := opG_ex hw; refine ⟨s, σ.heap, ?_, hk⟩; have : (fun s' : S => s' = s) = fun s' => s' = s ∧ σ.heap = σ.heap := by funext s'; simp
    rw [this] at hs; exact hs
def putE (d : Option Nat) (s : S) (e : List (Nat × S)) : List (Nat × S) := match d with
  | none => e
  | some d => (d, s) :: e
def segA (P : Program) (tb : Tb) (ops : Array Oper) : List Oper → St → (St → Prop) → Prop
  | [], σ, K => K σ
  | o :: r, σ, K => stepA P tb ops false o (σ.only (readsOf ops o)) fun s h1 => h1 = σ.heap ∧ σ.put o.dst s σ.heap fun σ' => segA P tb ops r σ' K
theorem put_eq {d : Option Nat} {s : S} {K : St → Prop} (hk : σ.put d s h K) : (∀ x, d = some x → x < σ.n) ∧ K { env := putE d s σ.env, heap := h, n := σ.n } := by
  unfold St.put at hk
  cases d with
  | none => exact ⟨(fun x h => by cases h), hk⟩
  | some d =>
    simp only [] at hk
    cases hd : nlt d σ.n with
    | false => rw [hd] at hk; exact hk.elim
    | true =>
      rw [hd] at hk; exact ⟨fun x h => by rw [← Option.some.inj h]; exact nle_le hd, hk⟩
structure Vals (P : Program) (tb : Tb) (ops : Array Oper) (a0 : Nat) (l : List Oper) (σ : St) (vals : Nat → S) (σs : Nat → St) : Prop where
  zero : σs a0 = σ
  at_ : ∀ k o, l[k]? = some o → (∀ d, o.dst = some d → d < σ.n) ∧ stepA P tb ops false o ((σs (a0 + k)).only (readsOf ops o)) (fun s h1 => s = vals (a0 + k) ∧ h1 = σ.heap)
  next : ∀ k o, l[k]? = some o → σs (a0 + k + 1) = { env := putE o.dst (vals (a0 + k)) (σs (a0 + k)).env, heap := σ.heap, n := σ.n }
theorem segA_vals {tb : Tb} {K : St → Prop} : ∀ (l : List Oper) (a0 : Nat) (σ : St), segA P tb ops l σ K → ∃ vals σs, Vals P tb ops a0 l σ vals σs ∧ K (σs (a0 + l.length))
  | [], a0, σ, hw => ⟨fun _ => .undef, fun _ => σ, ⟨rfl, (fun k o h => by simp at h), (fun k o h => by simp at h)⟩, hw⟩
  | o :: r, a0, σ, hw => by
    obtain ⟨s, h1, hs, rfl, hk⟩ := stepA_ex hw; obtain ⟨hd, hk⟩ := put_eq hk; obtain ⟨vals, σs, hv, hk⟩ := segA_vals r (a0 + 1) _ hk; refine ⟨fun j => if j = a0 then s else vals j, fun j => if j ≤ a0 then σ else σs j, ⟨by simp, fun k o' ho => ?_, fun k o' ho => ?_⟩, ?_⟩
    · cases k with
      | zero =>
        obtain rfl := Option.some.inj (show some o = some o' from ho); refine ⟨hd, ?_⟩
        simpa using hs
      | succ k =>
        have := hv.at_ k o' (by simpa using ho); rw [show a0 + (k + 1) = a0 + 1 + k by omega]; rw [if_neg (by omega), if_neg (by omega)]; exact this
    · cases k with
      | zero =>
        obtain rfl := Option.some.inj (show some o = some o' from ho); simp only [Nat.add_zero, if_true, Nat.le_refl]
        rw [if_neg (by omega), hv.zero]
      | succ k =>
        have := hv.next k o' (by simpa using ho); rw [show a0 + (k + 1) = a0 + 1 + k by omega]; rw [if_neg (by omega), if_neg (by omega), if_neg (by omega)]; exact this
    · show K (if a0 + (r.length + 1) ≤ a0 then σ else σs (a0 + (r.length + 1))); rw [if_neg (by omega), show a0 + (r.length + 1) = a0 + 1 + r.length by omega]; exact hk
theorem look_putE (d : Option Nat) (s : S) (e : List (Nat × S)) (t : Nat) : look (putE d s e) t = if d = some t then s else look e t := by
  cases d with
  | none => simp [putE]
  | some d =>
    show (bif nb d t then s else look e t) = _
    cases hb : nb d t with
    | true => obtain rfl := nb_eq hb; simp
    | false => have := nb_ne hb; simp [this]
def edge (ops : Array Oper) (k j : Nat) : Bool := match ops[k]? with
  | some o => o.after.toList.any fun e => Region.binds .any e && nb e.on j
  | none => false
def reachB (ops : Array Oper) : Nat → Nat → Nat → Bool
  | 0, _, _ => false
  | f + 1, k, j => edge ops k j || (List.range k).any fun e => edge ops k e && reachB ops f e j
def segChk (ops : Array Oper) (a0 m : Nat) : Bool :=
  ((List.range' a0 m).all fun i => (List.range' a0 m).all fun j => nb i j || match dstOf ops i with
    | some t => !((dstOf ops j).any fun t' => nb t' t)
    | none => true) &&
  ((List.range' a0 m).all fun i => match ops[i]? with
    | some o => (readsOf ops o).all fun t => (List.range' a0 m).all fun j => !((dstOf ops j).any fun t' => nb t' t) || (nlt j i && edge ops i j)
    | none => false) &&
  (nle ops.size (a0 + m) || ((List.range' a0 m).all fun j => reachB ops ops.size (a0 + m) j)) &&
  ((List.range' (a0 + m + 1) (ops.size - (a0 + m + 1))).all fun k => (List.range' (a0 + m) (k - (a0 + m))).any fun e => edge ops k e)
def segsChk (ops : Array Oper) : Nat → List Nat → Bool
  | a0, [] => nb a0 ops.size
  | a0, m :: ms => segChk ops a0 m && segsChk ops (a0 + m) ms
def backChk (ops : Array Oper) : Bool := (List.range ops.size).all fun k => match ops[k]? with
  | some o => o.after.toList.all fun e => !Region.binds .any e || nlt e.on k
  | none => true
structure SegOk (ops : Array Oper) (a0 m : Nat) : Prop where
  uniq : ∀ i j t, a0 ≤ i → i < a0 + m → a0 ≤ j → j < a0 + m → dstOf ops i = some t → dstOf ops j = some t → i = j
  reads : ∀ i o, a0 ≤ i → i < a0 + m → ops[i]? = some o → ∀ t ∈ readsOf ops o, ∀ j, a0 ≤ j → j < a0 + m → dstOf ops j = some t → j < i ∧ edge ops i j = true
  bar : a0 + m < ops.size → ∀ j, a0 ≤ j → j < a0 + m → reachB ops ops.size (a0 + m) j = true
  late : ∀ k, a0 + m < k → k < ops.size → ∃ e, a0 + m ≤ e ∧ e < k ∧ edge ops k e = true
theorem any_beq {o : Option Nat} {t : Nat} (h : o = some t) : (o.any fun t' => nb t' t) = true := by
  rw [h]; exact nb_refl t
theorem segChk_ok {a0 m : Nat} (h : segChk ops a0 m = true) : SegOk ops a0 m := by
  unfold segChk at h; simp only [Bool.and_eq_true, List.all_eq_true, List.mem_range'_1] at h; obtain ⟨⟨⟨h1, h2⟩, h3⟩, h4⟩ := h; refine ⟨fun i j t hi hi' hj hj' hdi hdj => ?_, fun i o hi hi' ho t ht j hj hj' hdj => ?_, fun hb j hj hj' => ?_, fun k hk hk' => ?_⟩
  · have := h1 i ⟨hi, hi'⟩ j ⟨hj, hj'⟩; rw [hdi] at this; simp only [Bool.or_eq_true] at this; rcases this with this | this
    · exact nb_eq this
    · rw [any_beq hdj] at this; cases this
  · have := h2 i ⟨hi, hi'⟩; rw [ho] at this; simp only [List.all_eq_true, List.mem_range'_1] at this; have := this t ht j ⟨hj, hj'⟩; rw [any_beq hdj] at this; simp only [Bool.not_true, Bool.false_or, Bool.and_eq_true] at this; exact ⟨nle_le this.1, this.2⟩
  · simp only [Bool.or_eq_true, List.all_eq_true, List.mem_range'_1] at h3; rcases h3 with h3 | h3
    · have := nle_le h3; omega
    · exact h3 j ⟨hj, hj'⟩
  · have := h4 k ⟨by omega, by omega⟩; simp only [List.any_eq_true, List.mem_range'_1] at this; obtain ⟨e, ⟨he1, he2⟩, he3⟩ := this; exact ⟨e, he1, by omega, he3⟩
def Lst (listed : Array Bool) (j : Nat) : Prop := listed.getD j false = true
structure LOk (ops : Array Oper) (listed : Array Bool) : Prop where
  size : listed.size = ops.size
  dc : ∀ k j, Lst listed k → edge ops k j = true → Lst listed j
theorem Lst.lt {listed : Array Bool} {j : Nat} (h : Lst listed j) : j < listed.size := by
  rcases Nat.lt_or_ge j listed.size with h' | h'
  · exact h'
  · unfold Lst at h; simp [Array.getD_eq_getD_getElem?, Array.getElem?_eq_none h'] at h
theorem lst_set {listed : Array Bool} {i j : Nat} (hi : i < listed.size) : Lst (listed.setIfInBounds i true) j ↔ j = i ∨ Lst listed j := by
  unfold Lst
  by_cases hij : i = j
  · subst hij; simp [hi]
  · rw [getD_set_ne false hij]; constructor
    · exact .inr
    · rintro (h | h)
      · exact absurd h.symm hij
      · exact h
theorem ready_of {listed : Array Bool} {i : Nat} (h : i ∈ Region.ready .any ops listed) : ¬ Lst listed i ∧ i < ops.size ∧ ∀ j, edge ops i j = true → Lst listed j := by
  obtain ⟨h0, o, ho, hall⟩ := mem_ready.1 h; refine ⟨fun hl => ?_, (Array.getElem?_eq_some_iff.1 ho).1, fun j hj => ?_⟩
  · have hlt := hl.lt; unfold Lst at hl; simp [hlt] at h0 hl; rw [h0] at hl; cases hl
  · unfold edge at hj; rw [ho] at hj; simp only [List.any_eq_true, Bool.and_eq_true] at hj; obtain ⟨e, he, hb, hon⟩ := hj; rw [← nb_eq hon]; exact hall e (by simpa using he) hb
theorem ready_to {listed : Array Bool} {i : Nat} (hs : listed.size = ops.size) (hi : i < ops.size) (hn : ¬ Lst listed i) (hall : ∀ j, edge ops i j = true → Lst listed j) : i ∈ Region.ready .any ops listed := by
  refine mem_ready.2 ⟨?_, ops[i], by simp [hi], fun e he hb => hall e.on ?_⟩
  · have : i < listed.size := by omega
    unfold Lst at hn; simp [this] at hn ⊢; exact hn
  · unfold edge; simp only [hi, Array.getElem?_eq_getElem]; simp only [List.any_eq_true, Bool.and_eq_true]; exact ⟨e, by simpa using he, hb, nb_refl _⟩
theorem back_of (h : backChk ops = true) {k j : Nat} (he : edge ops k j = true) : j < k := by
  unfold edge at he; split at he <;> try (cases he; done)
  rename_i o ho
  have hk := (Array.getElem?_eq_some_iff.1 ho).1; unfold backChk at h; simp only [List.all_eq_true, List.mem_range] at h; have := h k hk; rw [ho] at this; simp only [List.all_eq_true, Bool.or_eq_true] at this; simp only [List.any_eq_true, Bool.and_eq_true] at he; obtain ⟨e, hm, hb, hon⟩ := he; rcases this e hm with h1 | h1
  · rw [hb] at h1; cases h1
  · rw [← nb_eq hon]; exact nle_le h1
theorem reach_lst {listed : Array Bool} (hL : LOk ops listed) {j : Nat} : ∀ (f k : Nat), (∀ j, edge ops k j = true → Lst listed j) → reachB ops f k j = true → Lst listed j
  | 0, _, _, h => by cases h
  | f + 1, k, hp, h => by
    unfold reachB at h; simp only [Bool.or_eq_true, List.any_eq_true, Bool.and_eq_true] at h; rcases h with h | ⟨e, _, h1, h2⟩
    · exact hp j h
    · exact reach_lst hL f e (fun j' h' => hL.dc e j' (hp e h1) h') h2
theorem all_lst {listed : Array Bool} (hL : LOk ops listed) {a0 m : Nat} (ok : SegOk ops a0 m) : ∀ (k : Nat), a0 + m ≤ k → k < ops.size → (∀ j, edge ops k j = true → Lst listed j) → ∀ j, a0 ≤ j → j < a0 + m → Lst listed j := by
  intro k
  induction k using Nat.strongRecOn with
  | _ k ih =>
    intro hk hks hp j hj hj'; rcases Nat.eq_or_lt_of_le hk with rfl | hk
    · exact reach_lst hL _ _ hp (ok.bar hks j hj hj')
    · obtain ⟨e, h1, h2, h3⟩ := ok.late k hk hks; exact ih e h2 h1 (by omega) (fun j' h' => hL.dc e j' (hp e h3) h') j hj hj'
end
end Go.Den
end
section
-- the texts that this claim needs, out of this session's and its print's (wip/shrink.py)
namespace Go.Den
open Go Go.RowKit
section
variable {P : Program} {cx : Cx} {U U1 : Nat → Prop} {ρ ρ1 : Nat → Value} {σ : St} {h h1 : List Blk} {a : Act} {w w1 : World} {ops : Array Oper} {tb : Tb} {vals : Nat → S} {σs : Nat → St} {a0 m : Nat} {l : List Oper} {Q : Exit → Act → World → Prop}
def cnt (listed : Array Bool) : Nat → Nat → Nat
  | _, 0 => 0
  | lo, n + 1 => (if listed.getD lo false = true then 0 else 1) + cnt listed (lo + 1) n
theorem cnt_zero {listed : Array Bool} : ∀ (n lo : Nat), cnt listed lo n = 0 → ∀ j, lo ≤ j → j < lo + n → Lst listed j
  | 0, lo, _, j, h1, h2 => by omega
  | n + 1, lo, h, j, h1, h2 => by
    unfold cnt at h; rcases Nat.eq_or_lt_of_le h1 with rfl | h1
    · unfold Lst; split at h
      · assumption
      · omega
    · exact cnt_zero n (lo + 1) (by omega) j h1 (by omega)
theorem cnt_out {listed : Array Bool} {i : Nat} : ∀ (n lo : Nat), (i < lo ∨ lo + n ≤ i) → cnt (listed.setIfInBounds i true) lo n = cnt listed lo n
  | 0, lo, _ => rfl
  | n + 1, lo, h => by
    unfold cnt; rw [cnt_out n (lo + 1) (by omega), getD_set_ne false (by omega)]
theorem cnt_set {listed : Array Bool} {i : Nat} (hi : i < listed.size) (hn : ¬ Lst listed i) : ∀ (n lo : Nat), lo ≤ i → i < lo + n → cnt listed lo n = cnt (listed.setIfInBounds i true) lo n + 1
  | 0, lo, h1, h2 => by omega
  | n + 1, lo, h1, h2 => by
    unfold cnt; rcases Nat.eq_or_lt_of_le h1 with rfl | h1
    · rw [cnt_out n (lo + 1) (by omega), if_neg (show ¬ listed.getD lo false = true from hn), if_pos (show (listed.setIfInBounds lo true).getD lo false = true from (lst_set hi).2 (.inl rfl))]; omega
    · rw [cnt_set hi hn n (lo + 1) h1 (by omega), getD_set_ne false (by omega)]; omega
theorem dst_of {k : Nat} {o : Oper} (hl : ops[k]? = some o) : dstOf ops k = o.dst := by unfold dstOf; rw [hl]
theorem vals_get (hv : Vals P tb ops a0 l σ vals σs) (ok : SegOk ops a0 m) (hlen : l.length = m) (hl : ∀ k, k < m → l[k]? = ops[a0 + k]?) : ∀ k, k ≤ m →
    (σs (a0 + k)).heap = σ.heap ∧ (σs (a0 + k)).n = σ.n ∧ (∀ j t, a0 ≤ j → j < a0 + k → dstOf ops j = some t → (σs (a0 + k)).get t = vals j) ∧ (∀ t, (∀ j, a0 ≤ j → j < a0 + k → dstOf ops j ≠ some t) → (σs (a0 + k)).get t = σ.get t)
  | 0, _ => by
    rw [Nat.add_zero, hv.zero]
    exact ⟨rfl, rfl, fun j t h1 h2 => by omega, fun t _ => rfl⟩
  | k + 1, hk => by
    obtain ⟨i1, i2, i3, i4⟩ := vals_get hv ok hlen hl k (by omega); have hlk : k < l.length := by omega
    have ho : l[k]? = some l[k] := List.getElem?_eq_getElem hlk; have hn := hv.next k _ ho; have hd : dstOf ops (a0 + k) = l[k].dst := dst_of (by rw [← hl k (by omega)]; exact ho); rw [← Nat.add_assoc, hn]; refine ⟨rfl, rfl, fun j t h1 h2 hj => ?_, fun t ht => ?_⟩
    · show look (putE _ _ _) t = _; rw [look_putE]; split
      · rename_i hdt
        rw [ok.uniq j (a0 + k) t h1 (by omega) (by omega) (by omega) hj (by rw [hd]; exact hdt)]
      · rename_i hdt
        have : j ≠ a0 + k := fun e => hdt (by rw [← hd, ← e]; exact hj); exact i3 j t h1 (by omega) hj
    · show look (putE _ _ _) t = _; rw [look_putE, if_neg (by rw [← hd]; exact ht (a0 + k) (by omega) (by omega))]; exact i4 t fun j h1 h2 => ht j h1 (by omega)
structure AnyAt (cx : Cx) (ops : Array Oper) (σ : St) (vals : Nat → S) (a0 m : Nat) (listed : Array Bool) (σ' : St) : Prop where
  heap : σ'.heap = σ.heap
  n : σ'.n = σ.n
  in_ : ∀ j t, a0 ≤ j → j < a0 + m → dstOf ops j = some t → Lst listed j → σ'.get t = vals j
  out : ∀ t, (∀ j, a0 ≤ j → j < a0 + m → dstOf ops j = some t → ¬ Lst listed j) → σ'.get t = σ.get t
theorem AnyAt.reads {listed : Array Bool} {σ' : St} {i : Nat} {o : Oper} (hA : AnyAt cx ops σ vals a0 m listed σ') (hv : Vals P tb ops a0 l σ vals σs) (ok : SegOk ops a0 m) (hlen : l.length = m) (hl : ∀ k, k < m → l[k]? = ops[a0 + k]?)
    (h1 : a0 ≤ i) (h2 : i < a0 + m) (ho : ops[i]? = some o) (hp : ∀ j, edge ops i j = true → Lst listed j) : σ'.only (readsOf ops o) = (σs i).only (readsOf ops o) := by
  obtain ⟨i1, i2, i3, i4⟩ := vals_get hv ok hlen hl (i - a0) (by omega); rw [show a0 + (i - a0) = i by omega] at i1 i2 i3 i4; refine only_congr (hA.heap.trans i1.symm) (hA.n.trans i2.symm) fun t ht => ?_
  by_cases hx : ∃ j, a0 ≤ j ∧ j < a0 + m ∧ dstOf ops j = some t
  · obtain ⟨j, hj1, hj2, hj3⟩ := hx; obtain ⟨hlt, he⟩ := ok.reads i o h1 h2 ho t ht j hj1 hj2 hj3; rw [hA.in_ j t hj1 hj2 hj3 (hp j he), i3 j t hj1 hlt hj3]
  · have hx' : ∀ j, a0 ≤ j → j < a0 + m → dstOf ops j ≠ some t := fun j h1 h2 h3 => hx ⟨j, h1, h2, h3⟩; rw [hA.out t fun j h1 h2 h3 => absurd h3 (hx' j h1 h2), i4 t fun j h1 h2 => hx' j h1 (by omega)]
theorem seg_any (tok : TbOk P tb) (hb : backChk ops = true) (ok : SegOk ops a0 m) (hv : Vals P tb ops a0 l σ vals σs) (hlen : l.length = m) (hl : ∀ k, k < m → l[k]? = ops[a0 + k]?) (hm : a0 + m ≤ ops.size)
    (fin : ∀ listed a w, LOk ops listed → (∀ j, j < a0 + m → Lst listed j) → (∀ j, a0 + m ≤ j → ¬ Lst listed j) → R cx (σs (a0 + m)) a w → wpAny P .any ops Q (ops.size - (a0 + m)) listed a w) :
    ∀ u listed a w, cnt listed a0 m = u → LOk ops listed → (∀ j, j < a0 → Lst listed j) → (∀ j, a0 + m ≤ j → ¬ Lst listed j) → (∃ σ', AnyAt cx ops σ vals a0 m listed σ' ∧ R cx σ' a w) → wpAny P .any ops Q (u + (ops.size - (a0 + m))) listed a w := by
  intro u
  induction u with
  | zero =>
    rintro listed a w hc hL h0 hn ⟨σ', hA, r⟩; rw [Nat.zero_add]; have hall := cnt_zero m a0 hc; refine fin listed a w hL (fun j hj => ?_) hn ?_
    · rcases Nat.lt_or_ge j a0 with h | h
      · exact h0 j h
      · exact hall j h hj
    · obtain ⟨i1, i2, i3, i4⟩ := vals_get hv ok hlen hl m (Nat.le_refl _); refine r.of_get (hA.heap.trans i1.symm) (hA.n.trans i2.symm) fun t => .inl ?_
      by_cases hx : ∃ j, a0 ≤ j ∧ j < a0 + m ∧ dstOf ops j = some t
      · obtain ⟨j, hj1, hj2, hj3⟩ := hx; rw [hA.in_ j t hj1 hj2 hj3 (hall j hj1 hj2), i3 j t hj1 hj2 hj3]
      · have hx' : ∀ j, a0 ≤ j → j < a0 + m → dstOf ops j ≠ some t := fun j h1 h2 h3 => hx ⟨j, h1, h2, h3⟩
        rw [hA.out t fun j h1 h2 h3 => absurd h3 (hx' j h1 h2), i4 t fun j h1 h2 => hx' j h1 h2]
  | succ u ih =>
    rintro listed a w hc hL h0 hn ⟨σ', hA, r⟩; rw [Nat.add_right_comm]; refine ⟨fun hr => ?_, fun i hi => ?_⟩
    · exfalso
      have hall : ∀ j, j < a0 + m → Lst listed j := by
        intro j
        induction j using Nat.strongRecOn with
        | _ j ihj =>
          intro hj; refine Classical.byContradiction fun hnl => ?_; have := ready_to hL.size (by omega) hnl fun j' he => ihj j' (back_of hb he) (by have := back_of hb he; omega); rw [hr] at this
          cases this
      have hz : ∀ (n lo : Nat), lo + n ≤ a0 + m → cnt listed lo n = 0 := by
        intro n
        induction n with
        | zero => intro lo _; rfl
        | succ n ih =>
          intro lo h; unfold cnt; rw [if_pos (show listed.getD lo false = true from hall lo (by omega)), ih (lo + 1) (by omega)]
      have := hz m a0 (Nat.le_refl _); omega
    · obtain ⟨hni, his, hp⟩ := ready_of hi; have hi1 : a0 ≤ i := Nat.le_of_not_lt fun h => hni (h0 i h)
      have hi2 : i < a0 + m := Nat.lt_of_not_le fun h => by
        have hall := all_lst hL ok i h his hp
        have hz : ∀ (n lo : Nat), a0 ≤ lo → lo + n ≤ a0 + m → cnt listed lo n = 0 := by
          intro n
          induction n with
          | zero => intro lo _ _; rfl
          | succ n ih =>
            intro lo h1 h; unfold cnt; rw [if_pos (show listed.getD lo false = true from hall lo h1 (by omega)), ih (lo + 1) (by omega) (by omega)]
        have := hz m a0 (Nat.le_refl _) (Nat.le_refl _); omega
      have ho : ops[i]? = some ops[i] := by simp [his]
      have hlo : l[i - a0]? = some ops[i] := by rw [hl (i - a0) (by omega), show a0 + (i - a0) = i by omega]; exact ho
      obtain ⟨hd, hstep⟩ := hv.at_ (i - a0) _ hlo; rw [show a0 + (i - a0) = i by omega, ← hA.reads hv ok hlen hl hi1 hi2 ho hp] at hstep; obtain ⟨U, ρ, r⟩ := r; refine stepA_ok tok ho hstep (r.only _) fun s h1 v w1 U1 ρ1 hK g hs => ?_; obtain ⟨rfl, rfl⟩ := hK; have hlt : i < listed.size := by rw [hL.size]; exact his
      have g' : Go1 U ρ σ'.heap w U1 ρ1 σ.heap w1 := g; have hnew : (∀ x, Lst (listed.setIfInBounds i true) x ↔ x = i ∨ Lst listed x) := fun x => lst_set hlt; refine ih (listed.setIfInBounds i true) _ w1 (by have := cnt_set hlt hni m a0 hi1 hi2; omega) ⟨by rw [Array.size_setIfInBounds]; exact hL.size, fun k j hk he => ?_⟩ (fun j hj => (hnew j).2 (.inr (h0 j hj))) (fun j hj hx => ?_) ?_
      · rcases (hnew k).1 hk with rfl | hk
        · exact (hnew j).2 (.inr (hp j he))
        · exact (hnew j).2 (.inr (hL.dc k j hk he))
      · rcases (hnew j).1 hx with rfl | hx
        · omega
        · exact hn j hj hx
      · have hdi : dstOf ops i = ops[i].dst := dst_of ho; have r1 := r.step g'
        have hA1 : AnyAt cx ops σ vals a0 m (listed.setIfInBounds i true) { env := putE ops[i].dst (vals i) σ'.env, heap := σ.heap, n := σ'.n } := by
          refine ⟨rfl, hA.n, fun j t hj1 hj2 hj3 hj4 => ?_, fun t ht => ?_⟩
          · show look (putE _ _ _) t = _; rw [look_putE]; split
            · rename_i hdt
              rw [ok.uniq j i t hj1 hj2 hi1 hi2 hj3 (by rw [hdi]; exact hdt)]
            · rename_i hdt
              have : j ≠ i := fun e => hdt (by rw [← hdi, ← e]; exact hj3); exact hA.in_ j t hj1 hj2 hj3 (((hnew j).1 hj4).resolve_left this)
          · show look (putE _ _ _) t = _; rw [look_putE, if_neg ?_]
            · exact hA.out t fun j h1 h2 h3 h4 => ht j h1 h2 h3 ((hnew j).2 (.inr h4))
            · rw [← hdi]; exact fun h => ht i hi1 hi2 h ((hnew i).2 (.inl rfl))
        refine ⟨_, hA1, U1, ρ1, ?_⟩; have hs' : SR U1 ρ1 σ.heap w1 (vals i) v := by rw [← (show i = i from rfl)]; simpa [show a0 + (i - a0) = i by omega] using hs
        cases hdd : ops[i].dst with
        | none => exact r1
        | some d =>
          have hdn : d < σ'.n := by rw [hA.n]; exact hd d hdd
          exact r1.put (σ := { σ' with heap := σ.heap }) hdn hs'
def segsW (P : Program) (tb : Tb) (ops : Array Oper) : List Nat → List Oper → St → (St → Prop) → Prop
  | [], _, σ, K => K σ
  | m :: ms, l, σ, K => bif nb m 1 then (match l with
    | o :: r => stepA P tb ops (asg o.dst r) o σ fun s h1 => σ.put o.dst s h1 fun σ' => segsW P tb ops ms r σ' K
    | [] => False)
    else segA P tb ops (l.take m) σ fun σ' => segsW P tb ops ms (l.drop m) σ' K
theorem R.drew (r : R cx σ a w) : R cx σ a { w with drawn := w.drawn + 1 } := by
  obtain ⟨U, ρ, r⟩ := r; have t : Tr U w U { w with drawn := w.drawn + 1 } := ⟨⟨rfl, rfl, rfl, Nat.le_refl _, fun _ _ _ => rfl⟩, fun _ _ h => h⟩
  refine ⟨U, ρ, r.size, r.defers, fun t' => (r.env t').tr t (Ext.refl _ _), ⟨fun id b hb => ?_, r.hr.apart, r.hr.inU⟩, ?_, r.newU, r.oldU, r.places, r.ext⟩
  · exact (r.hr.blk id b hb).tr hb t (Ext.refl _ _) (fun _ _ _ => rfl) (fun _ _ => rfl)
  · exact r.agree.trans ⟨rfl, rfl, rfl, Nat.le_refl _, fun _ _ _ => rfl⟩ fun _ _ h => h
theorem segs_ok (tok : TbOk P tb) (hb : backChk ops = true) {K : St → Prop} (hQ : ∀ σ' a' w', K σ' → R cx σ' a' w' → Q .normal a' w') : ∀ (ms : List Nat) (a0 : Nat) (l : List Oper) (σ : St) (listed : Array Bool) (a : Act) (w : World), ops.toList.drop a0 = l → a0 ≤ ops.size → segsChk ops a0 ms = true → segsW P tb ops ms l σ K →
    LOk ops listed → (∀ j, j < a0 → Lst listed j) → (∀ j, a0 ≤ j → ¬ Lst listed j) → R cx σ a w → wpAny P .any ops Q (ops.size - a0) listed a w
  | [], a0, l, σ, listed, a, w, hl, ha, hc, hw, hL, h0, hn, r => by
    have he : a0 = ops.size := nb_eq hc; refine wpAny_done ?_ (hQ σ a w hw r) _
    cases hr : Region.ready .any ops listed with
    | nil => rfl
    | cons i t =>
      have hi := ready_of (ops := ops) (listed := listed) (i := i) (by rw [hr]; simp)
      exact absurd (h0 i (by omega)) hi.1
  | m :: ms, a0, l, σ, listed, a, w, hl, ha, hc, hw, hL, h0, hn, r => by
    obtain ⟨hc1, hc2⟩ : segChk ops a0 m = true ∧ segsChk ops (a0 + m) ms = true := by
      unfold segsChk at hc; simpa using hc
    have ok := segChk_ok hc1; unfold segsW at hw
    cases hm1 : nb m 1 with
    | true =>
      rw [hm1] at hw; obtain rfl := nb_eq hm1
      cases l with
      | nil => exact hw.elim
      | cons o rr =>
      have hw : stepA P tb ops (asg o.dst rr) o σ (fun s h1 => σ.put o.dst s h1 fun σ' => segsW P tb ops ms rr σ' K) := hw
      have hi : ops[a0]? = some o := by
        have := congrArg (fun l => l[0]?) hl; simpa [List.getElem?_drop] using this
      have hd : ops.toList.drop (a0 + 1) = rr := by
        rw [← List.drop_drop, hl]; rfl
      have hlt : a0 < ops.size := (Array.getElem?_eq_some_iff.1 hi).1; rw [show ops.size - a0 = (ops.size - (a0 + 1)) + 1 by omega]; refine ⟨fun hr => ?_, fun i hi' => ?_⟩
      · exfalso; have := ready_to hL.size hlt (hn a0 (Nat.le_refl _)) fun j he => h0 j (back_of hb he); rw [hr] at this
        cases this
      · obtain ⟨hni, his, hp⟩ := ready_of hi'; have hi1 : a0 ≤ i := Nat.le_of_not_lt fun h => hni (h0 i h)
        have hia : i = a0 := by
          rcases Nat.eq_or_lt_of_le hi1 with h | h
          · exact h.symm
          · exact absurd (all_lst hL ok i h his hp a0 (Nat.le_refl _) (by omega)) (hn a0 (Nat.le_refl _))
        subst hia; obtain ⟨U, ρ, r⟩ := r; refine stepA_ok tok hi hw r fun s h1 v w1 U1 ρ1 hK g hs => ?_; obtain ⟨σ', hK', r'⟩ := put_ok hK r g hs; have hlt' : i < listed.size := by rw [hL.size]; exact hlt
        have hnew : (∀ x, Lst (listed.setIfInBounds i true) x ↔ x = i ∨ Lst listed x) := fun x => lst_set hlt'; refine segs_ok tok hb hQ ms (i + 1) rr σ' _ _ w1 hd hlt hc2 hK' ⟨by rw [Array.size_setIfInBounds]; exact hL.size, fun k j hk he => ?_⟩ (fun j hj => ?_) (fun j hj hx => ?_) r'
        · rcases (hnew k).1 hk with rfl | hk
          · exact (hnew j).2 (.inr (hp j he))
          · exact (hnew j).2 (.inr (hL.dc k j hk he))
        · rcases Nat.lt_or_ge j i with h | h
          · exact (hnew j).2 (.inr (h0 j h))
          · exact (hnew j).2 (.inl (by omega))
        · rcases (hnew j).1 hx with rfl | hx
          · omega
          · exact hn j (by omega) hx
    | false =>
      rw [hm1] at hw; have hw : segA P tb ops (l.take m) σ (fun σ' => segsW P tb ops ms (l.drop m) σ' K) := hw
      have hm : a0 + m ≤ ops.size := by
        refine Nat.le_of_not_lt fun h => ?_
        have h3 : ∀ (ms : List Nat) (x : Nat), segsChk ops x ms = true → x ≤ ops.size := by
          intro ms
          induction ms with
          | nil => intro x hx; rw [nb_eq hx]; exact Nat.le_refl _
          | cons m ms ih =>
            intro x hx; unfold segsChk at hx; simp only [Bool.and_eq_true] at hx; have := ih _ hx.2; omega
        have := h3 ms _ hc2; omega
      obtain ⟨vals, σs, hv, hK⟩ := segA_vals _ a0 σ hw; have hll : l.length = ops.size - a0 := by rw [← hl, List.length_drop, Array.length_toList]
      have hlen : (l.take m).length = m := by rw [List.length_take]; omega
      rw [hlen] at hK
      have hlk : ∀ k, k < m → (l.take m)[k]? = ops[a0 + k]? := fun k hk => by
        rw [List.getElem?_take_of_lt hk, ← hl, List.getElem?_drop, Array.getElem?_toList]
      have hd : ops.toList.drop (a0 + m) = l.drop m := by rw [← List.drop_drop, hl]
      have hcnt : ∀ (n lo : Nat), a0 ≤ lo → cnt listed lo n = n := by
        intro n
        induction n with
        | zero => intro lo _; rfl
        | succ n ih =>
          intro lo h; unfold cnt; rw [if_neg (show ¬ listed.getD lo false = true from hn lo h), ih (lo + 1) (by omega)]; omega
      rw [show ops.size - a0 = m + (ops.size - (a0 + m)) by omega]; refine seg_any tok hb ok hv hlen hlk hm (fun listed' a' w' hL' h0' hn' r' => segs_ok tok hb hQ ms (a0 + m) (l.drop m) (σs (a0 + m)) listed' a' w' hd hm hc2 hK hL' h0' hn' r') m listed a w (hcnt m a0 (Nat.le_refl _)) hL h0 (fun j hj => hn j (by omega)) ⟨σ, ⟨rfl, rfl, fun j t h1 h2 h3 h4 => absurd h4 (hn j h1), fun _ _ => rfl⟩, r⟩
theorem W.any {id : Nat} {Q : Exit → St → Prop} (ms : List Nat) (tok : TbOk P tb) (hm : P.follows .mixedOrders = true) (hb : (backChk ops && segsChk ops 0 ms) = true) (hw : segsW P tb ops ms ops.toList σ (fun σ' => Q .normal σ')) : W P cx (.region id ops true) σ Q := fun a w r => by
  obtain ⟨hb1, hb2⟩ : backChk ops = true ∧ segsChk ops 0 ms = true := by simpa using hb
  refine wp_region_any hm ?_
  have hn : ∀ j, ¬ Lst (Array.replicate ops.size false) j := fun j h => by
    unfold Lst at h; rw [Array.getD_eq_getD_getElem?, Array.getElem?_replicate] at h; split at h <;> simp at h
  have := segs_ok (cx := cx) (Q := fun e a' w' => ∃ σ', Q e σ' ∧ R cx σ' a' w') tok hb1 (fun σ' a' w' hk r' => ⟨σ', hk, r'⟩) ms 0 ops.toList σ (Array.replicate ops.size false) a _ rfl (Nat.zero_le _) hb2 hw ⟨by simp, fun k j hk => absurd hk (hn k)⟩ (fun j hj => by omega) (fun j _ => hn j) r.drew; simpa using this
end
end Go.Den
end
section
-- the texts that this claim needs, out of this session's and its print's (wip/shrink.py)
namespace Go.Den
open Go Go.RowKit
section
variable {P : Program} {cx : Cx} {σ : St} {ops : Array Oper} {tb : Tb}
theorem W.seqR {id : Nat} {y : Code} {Q : Exit → St → Prop} (tok : TbOk P tb) (σ1 : St) (h : opsW P tb ops ops.toList σ (fun σ' => σ' = σ1)) (hk : W P cx y σ1 Q) : W P cx (.seq (.region id ops false) y) σ Q :=
  W.seq (W.mono (W.region (Q := fun e σ' => e = .normal ∧ σ' = σ1) tok (by simpa using h)) fun e σ' he => by obtain ⟨rfl, rfl⟩ := he; exact hk)
theorem W.seqA {id : Nat} {y : Code} {Q : Exit → St → Prop} (ms : List Nat) (tok : TbOk P tb) (hm : P.follows .mixedOrders = true) (hb : (backChk ops && segsChk ops 0 ms) = true) (σ1 : St) (h : segsW P tb ops ms ops.toList σ (fun σ' => σ' = σ1)) (hk : W P cx y σ1 Q) : W P cx (.seq (.region id ops true) y) σ Q :=
  W.seq (W.mono (W.any (Q := fun e σ' => e = .normal ∧ σ' = σ1) ms tok hm hb (by simpa using h)) fun e σ' he => by obtain ⟨rfl, rfl⟩ := he; exact hk)
theorem W.reg {id : Nat} {Q : Exit → St → Prop} (tok : TbOk P tb) (σ1 : St) (h : opsW P tb ops ops.toList σ (fun σ' => σ' = σ1)) (hk : Q .normal σ1) : W P cx (.region id ops false) σ Q :=
  W.mono (W.region (Q := fun e σ' => e = .normal ∧ σ' = σ1) tok (by simpa using h)) fun e σ' he => by obtain ⟨rfl, rfl⟩ := he; exact hk
theorem W.if_ {c : Operand} {x y : Code} {Q : Exit → St → Prop} (b : Bool) (hb : σ.ev c = .one (.bool b)) (h1 : b = true → W P cx x σ Q) (h2 : b = false → W P cx y σ Q) : W P cx (.cond c x y) σ Q :=
  W.cond (by unfold boolOf; rw [hb]; exact ⟨h1, h2⟩)
def endL (tb : Tb) (rs : List ResultVar) (n0 : Nat) (s : S) (h1 : List Blk) (σ : St) : Prop := match resL tb σ rs σ.heap with
  | some (l, h2, p) => p ∧ match tupOf l with
    | some r => ∃ src : List Nat, srcOk src n0 h2.length = true ∧ r.ren src = s ∧ heapCut src h2 = h1
    | none => False
  | none => False
def retQ (tb : Tb) (rs : List ResultVar) (n0 : Nat) (s : S) (h1 : List Blk) : Exit → St → Prop
  | .normal, σ => endL tb rs n0 s h1 σ
  | .ret, σ => endL tb rs n0 s h1 σ
  | _, _ => False
theorem CallStep.intro' {f : Nat} {fn : Func} {c : Code} {xs : List S} {h h1 : List Blk} {s : S} {n n0 : Nat} {rs : List ResultVar} (ok : TbOk P tb) (hf : P.funcs[f]? = some fn) (hn : (fn.name == "runtime.NumGoroutine") = false) (hb : fn.body = some c) (hnt : fn.ntmps = n) (hrs : fn.results.toList = rs) (h0 : h.length = n0) (hlen : nle xs.length n = true)
    (hw : ∀ cx : Cx, cx.h0.length = n0 → W P cx c { env := enum 0 xs, heap := h, n := n } (retQ tb rs n0 s h1)) : CallStep P f xs h s h1 := by
  subst hnt hrs h0; refine CallStep.intro ok hf hn hb (nle_le hlen) fun cx hcx => (hw cx (by rw [hcx])).mono fun e σ' he => ?_; subst hcx
  cases e <;> exact he
def keeps (σ' σ1 : St) : List (Nat × S) → Prop
  | [] => σ'.heap = σ1.heap ∧ σ'.n = σ1.n
  | (t, s) :: r => σ'.get t = s ∧ keeps σ' σ1 r
theorem keeps_get {σ' σ1 : St} : ∀ (l : List (Nat × S)), keeps σ' σ1 l → (σ'.heap = σ1.heap ∧ σ'.n = σ1.n) ∧ ∀ t, look l t = σ'.get t ∨ look l t = .undef
  | [], h => ⟨h, fun t => .inr rfl⟩
  | (t', s) :: r, h => by
    obtain ⟨h1, h2⟩ := keeps_get r h.2; refine ⟨h1, fun t => ?_⟩; show (bif nb t' t then s else look r t) = _ ∨ (bif nb t' t then s else look r t) = _
    cases hb : nb t' t with
    | true =>
      obtain rfl := nb_eq hb
      exact .inl h.1.symm
    | false => exact h2 t
theorem Le.keeps {σ' σ1 : St} (h : keeps σ' σ1 σ1.env) : Le cx σ' σ1 := fun a w r => by
  obtain ⟨⟨h1, h2⟩, h3⟩ := keeps_get _ h; exact r.of_get h1 h2 h3
theorem endL1 {t n0 : Nat} {s : S} (hg : σ.get t = s) (hs : s.ren (List.range n0) = s) (hsrc : srcOk (List.range n0) n0 σ.heap.length = true) {h1 : List Blk} (hh : heapCut (List.range n0) σ.heap = h1) : endL tb [.tmp t] n0 s h1 σ := by
  refine ⟨trivial, ?_⟩; show ∃ src : List Nat, _; exact ⟨List.range n0, hsrc, by rw [show σ.get t = s from hg]; exact hs, hh⟩
end
section
variable {α β : Type}
theorem l_drop0 (l : List α) : List.drop 0 l = l := rfl
theorem l_dropS (n : Nat) (a : α) (l : List α) : List.drop (n + 1) (a :: l) = List.drop n l := rfl
theorem l_take0 (l : List α) : List.take 0 l = [] := rfl
theorem l_takeS (n : Nat) (a : α) (l : List α) : List.take (n + 1) (a :: l) = a :: List.take n l := rfl
theorem l_mapn (f : α → β) : List.map f [] = [] := rfl
theorem l_mapc (f : α → β) (a : α) (l : List α) : List.map f (a :: l) = f a :: List.map f l := rfl
theorem l_get0 (a : α) (l : List α) : (a :: l)[0]? = some a := rfl
theorem l_getS (n : Nat) (a : α) (l : List α) : (a :: l)[n + 1]? = l[n]? := rfl
theorem l_rep0 (a : α) : List.replicate 0 a = [] := rfl
theorem l_repS (n : Nat) (a : α) : List.replicate (n + 1) a = a :: List.replicate n a := rfl
theorem l_fmn (f : α → List β) : List.flatMap f [] = [] := rfl
theorem l_fmc (f : α → List β) (a : α) (l : List α) : List.flatMap f (a :: l) = f a ++ List.flatMap f l := rfl
theorem b_nt : (!true) = false := rfl
theorem b_nf : (!false) = true := rfl
theorem l_set0 (a b : α) (l : List α) : (a :: l).set 0 b = b :: l := rfl
theorem l_setS (n : Nat) (a b : α) (l : List α) : (a :: l).set (n + 1) b = a :: l.set n b := rfl
theorem l_appn (l : List α) : [] ++ l = l := rfl
theorem l_appc (a : α) (l m : List α) : (a :: l) ++ m = a :: (l ++ m) := rfl
end
theorem isNil_row : isNil (.slice none 0 0) = true := rfl
theorem isNil_int (k : IntKind) (n : Int) : isNil (.int k n) = false := rfl
theorem isNil_bool (b : Bool) : isNil (.bool b) = false := rfl
theorem isNil_str (s : ByteArray) : isNil (.string s) = false := rfl
theorem isNil_ptr : isNil (.pointer none) = false := rfl
theorem vC_row : vC (.slice none 0 0) = .nil := rfl
theorem vC_int (k : IntKind) (n : Int) : vC (.int k n) = .int k n := rfl
theorem vC_bool (b : Bool) : vC (.bool b) = .bool b := rfl
theorem vC_str (s : ByteArray) : vC (.string s) = .str s := rfl
theorem vC_ptr : vC (.pointer none) = .nilp := rfl
theorem ofConst_row : ofConst (.slice none 0 0) = .one .nil := rfl
theorem ofConst_int (k : IntKind) (n : Int) : ofConst (.int k n) = .one (.int k n) := rfl
theorem ofConst_bool (b : Bool) : ofConst (.bool b) = .one (.bool b) := rfl
theorem ofConst_str (s : ByteArray) : ofConst (.string s) = .one (.str s) := rfl
theorem ofConst_ptr : ofConst (.pointer none) = .one .nilp := rfl
attribute [simp] l_get0 l_getS l_rep0 l_repS l_fmn l_fmc b_nt b_nf l_set0 l_setS l_appn l_appc isNil_row isNil_int isNil_bool isNil_str isNil_ptr vC_row vC_int vC_bool vC_str vC_ptr ofConst_row ofConst_int ofConst_bool ofConst_str ofConst_ptr freezeL snapIds hjoin S.shift C.shift Blk.shift
attribute [simp] l_drop0 l_dropS l_take0 l_takeS l_mapn l_mapc nb nle nlt keeps opsW segsW segA stepW stepA opW opG callOf calleeOf guardOf St.put St.ev St.get look opGps gps oL opnds Op.operands opR core asg then_ inBlk boolOf retQ endL resL tupOf partOf enum eqR q0 eqZ binR asgR unR pickR grdOf
  builtinR lenR loadR storeR addrCells mkS TD.agg isAddr addOff fieldR indexR strIndexR anyIndexR arrIndexR partR fieldVR bnd sliceR truncR slR makeR srcOf appendR fillR thaw1 thawZ allocR baseOf plR buildR fitN buildSliceR convR partR fieldVR extractR capsR intsOf
  snap cellsOf rowK isBox K.flat K.sz K.fit St.only onlyE readsOf tmpsOf dstOf heapCut C.ren S.ren Blk.ren pos srcOk
end Go.Den
end
section
-- the texts that this claim needs, out of this session's and its print's (wip/shrink.py)
namespace Go.Den
open Go Go.RowKit
section
variable {P : Program} {cx : Cx} {σ : St} {ops : Array Oper} {tb : Tb}
def keepsC (src : List Nat) (σ' σ1 : St) : List (Nat × S) → Prop
  | [] => heapCut src σ'.heap = σ1.heap ∧ σ'.n = σ1.n
  | (t, s) :: r => (σ'.get t).ren src = s ∧ keepsC src σ' σ1 r
theorem keepsC_get {src : List Nat} {σ' σ1 : St} : ∀ (l : List (Nat × S)), keepsC src σ' σ1 l → (heapCut src σ'.heap = σ1.heap ∧ σ'.n = σ1.n) ∧ ∀ t, look l t = look ((l.map Prod.fst).map fun t => (t, (σ'.get t).ren src)) t ∨ look l t = .undef
  | [], h => ⟨h, fun t => .inr rfl⟩
  | (t', s) :: r, h => by
    obtain ⟨h1, h2⟩ := keepsC_get r h.2; refine ⟨h1, fun t => ?_⟩; show (bif nb t' t then s else look r t) = (bif nb t' t then (σ'.get t').ren src else look ((r.map Prod.fst).map fun t => (t, (σ'.get t).ren src)) t) ∨ (bif nb t' t then s else look r t) = _
    cases hb : nb t' t with
    | true => exact .inl h.1.symm
    | false => exact h2 t
theorem Le.to {σ' σ1 : St} {n0 : Nat} (src : List Nat) (hcx : cx.h0.length = n0) (hs : srcOk src n0 σ'.heap.length = true) (h : keepsC src σ' σ1 σ1.env) : Le cx σ' σ1 := fun a w r => by
  subst hcx; obtain ⟨⟨h1, h2⟩, h3⟩ := keepsC_get _ h; exact (Le.cut (σ1.env.map Prod.fst) src hs a w r).of_get h1 h2 h3
theorem W.rowLen {c : Code} {Q : Exit → St → Prop} (t : Nat) {e : Nat} {k : K} {xs : List k.T} (ht : σ.get t = .one (.row e k xs)) (h : xs.length ≤ 9223372036854775807 → W P cx c σ Q) : W P cx c σ Q := fun a w r => by
  obtain ⟨U, ρ, r0⟩ := r; have h1 := r0.env t; rw [ht] at h1; obtain ⟨A, cc, h2, h3, h4⟩ := KS.now (k := .row e k) (x := xs) h1; exact h h4.2.1 a w ⟨U, ρ, r0⟩
theorem W.ifT {c : Operand} {x y : Code} {Q : Exit → St → Prop} (hb : σ.ev c = .one (.bool true)) (h : W P cx x σ Q) : W P cx (.cond c x y) σ Q := W.if_ true hb (fun _ => h) (fun h => by cases h)
theorem W.ifF {c : Operand} {x y : Code} {Q : Exit → St → Prop} (hb : σ.ev c = .one (.bool false)) (h : W P cx y σ Q) : W P cx (.cond c x y) σ Q := W.if_ false hb (fun h => by cases h) (fun _ => h)
theorem W.regA {id : Nat} {Q : Exit → St → Prop} (ms : List Nat) (tok : TbOk P tb) (hm : P.follows .mixedOrders = true) (hb : (backChk ops && segsChk ops 0 ms) = true) (σ1 : St) (h : segsW P tb ops ms ops.toList σ (fun σ' => σ' = σ1)) (hk : Q .normal σ1) : W P cx (.region id ops true) σ Q :=
  W.mono (W.any (Q := fun e σ' => e = .normal ∧ σ' = σ1) ms tok hm hb (by simpa using h)) fun e σ' he => by obtain ⟨rfl, rfl⟩ := he; exact hk
theorem W.ifJ {c : Operand} {x y z : Code} {Q : Exit → St → Prop} (σ1 : St) (b : Bool) (hb : σ.ev c = .one (.bool b)) (h1 : b = true → W P cx x σ (then_ Q fun σ' => Le cx σ' σ1)) (h2 : b = false → W P cx y σ (then_ Q fun σ' => Le cx σ' σ1)) (hk : W P cx z σ1 Q) : W P cx (.cond c x y) σ (then_ Q fun σ' => W P cx z σ' Q) := by
  have hq : ∀ e σ', then_ Q (fun σ' => Le cx σ' σ1) e σ' → then_ Q (fun σ' => W P cx z σ' Q) e σ' := fun e σ' h => by
    cases e with
    | normal => exact W.le h hk
    | _ => exact h
  exact W.if_ b hb (fun h => (h1 h).mono hq) (fun h => (h2 h).mono hq)
end
attribute [simp] keepsC
section
variable {P : Program} {cx : Cx} {σ : St} {ops : Array Oper} {tb : Tb}
theorem W.sR {id : Nat} {y : Code} {Q : Exit → St → Prop} (tok : TbOk P tb) {σ1 : St} (hk : W P cx y σ1 Q) (h : opsW P tb ops ops.toList σ (fun σ' => σ' = σ1) := by (repeat' first | dsimp | simp only [castRow_self] | apply And.intro) <;> first | rfl | trivial | assumption | omega | (intros; and_intros <;> first | rfl | trivial | assumption | omega)) : W P cx (.seq (.region id ops false) y) σ Q := W.seqR tok σ1 h hk
theorem W.rR {id : Nat} {Q : Exit → St → Prop} (tok : TbOk P tb) {σ1 : St} (hk : Q .normal σ1) (h : opsW P tb ops ops.toList σ (fun σ' => σ' = σ1) := by (repeat' first | dsimp | simp only [castRow_self] | apply And.intro) <;> first | rfl | trivial | assumption | omega | (intros; and_intros <;> first | rfl | trivial | assumption | omega)) : W P cx (.region id ops false) σ Q := W.reg tok σ1 h hk
theorem W.sA {id : Nat} {y : Code} {Q : Exit → St → Prop} (ms : List Nat) (tok : TbOk P tb) {σ1 : St} (hk : W P cx y σ1 Q) (hm : P.follows .mixedOrders = true := by rfl) (hb : (backChk ops && segsChk ops 0 ms) = true := by rfl) (h : segsW P tb ops ms ops.toList σ (fun σ' => σ' = σ1) := by (repeat' first | dsimp | simp only [castRow_self] | apply And.intro) <;> first | rfl | trivial | assumption | omega | (intros; and_intros <;> first | rfl | trivial | assumption | omega)) : W P cx (.seq (.region id ops true) y) σ Q := W.seqA ms tok hm hb σ1 h hk
theorem W.rA {id : Nat} {Q : Exit → St → Prop} (ms : List Nat) (tok : TbOk P tb) {σ1 : St} (hk : Q .normal σ1) (hm : P.follows .mixedOrders = true := by rfl) (hb : (backChk ops && segsChk ops 0 ms) = true := by rfl) (h : segsW P tb ops ms ops.toList σ (fun σ' => σ' = σ1) := by (repeat' first | dsimp | simp only [castRow_self] | apply And.intro) <;> first | rfl | trivial | assumption | omega | (intros; and_intros <;> first | rfl | trivial | assumption | omega)) : W P cx (.region id ops true) σ Q := W.regA ms tok hm hb σ1 h hk
theorem W.sO {id : Nat} {y : Code} {Q : Exit → St → Prop} (tok : TbOk P tb) {σ1 : St} (hk : W P cx y σ1 Q) (h : opsW P tb ops ops.toList σ (fun σ' => σ' = σ1) := by (repeat' first | dsimp | simp only [castRow_self] | apply And.intro | (refine Exists.intro _ (Exists.intro _ (And.intro (by first | exact CallStep.pure (by assumption) rfl (by rfl) | exact CallStep.rows (by assumption) rfl) ?_))) | (refine Exists.intro _ (And.intro (fun _ => And.intro ?_ (by first | exact CallStep.pure (by assumption) rfl (by rfl) | exact CallStep.rows (H1 := []) (by assumption) rfl)) ?_))) <;> first | rfl | trivial | assumption | omega | (intros; and_intros <;> first | rfl | trivial | assumption | omega) | (intro h; rw [h]; rfl) | (intro h1; exact ⟨⟨h1, trivial⟩, ⟨fun _ => trivial, fun h2 => by rw [h1, h2]; rfl⟩, trivial⟩) | (intro h1; exact ⟨⟨h1, trivial⟩, ⟨fun h2 => by rw [h1, h2]; rfl, fun _ => trivial⟩, trivial⟩)) : W P cx (.seq (.region id ops false) y) σ Q := W.seqR tok σ1 h hk
theorem W.rO {id : Nat} {Q : Exit → St → Prop} (tok : TbOk P tb) {σ1 : St} (hk : Q .normal σ1) (h : opsW P tb ops ops.toList σ (fun σ' => σ' = σ1) := by (repeat' first | dsimp | simp only [castRow_self] | apply And.intro | (refine Exists.intro _ (Exists.intro _ (And.intro (by first | exact CallStep.pure (by assumption) rfl (by rfl) | exact CallStep.rows (by assumption) rfl) ?_))) | (refine Exists.intro _ (And.intro (fun _ => And.intro ?_ (by first | exact CallStep.pure (by assumption) rfl (by rfl) | exact CallStep.rows (H1 := []) (by assumption) rfl)) ?_))) <;> first | rfl | trivial | assumption | omega | (intros; and_intros <;> first | rfl | trivial | assumption | omega) | (intro h; rw [h]; rfl) | (intro h1; exact ⟨⟨h1, trivial⟩, ⟨fun _ => trivial, fun h2 => by rw [h1, h2]; rfl⟩, trivial⟩) | (intro h1; exact ⟨⟨h1, trivial⟩, ⟨fun h2 => by rw [h1, h2]; rfl, fun _ => trivial⟩, trivial⟩)) : W P cx (.region id ops false) σ Q := W.reg tok σ1 h hk
theorem W.aO {id : Nat} {y : Code} {Q : Exit → St → Prop} (ms : List Nat) (tok : TbOk P tb) {σ1 : St} (hk : W P cx y σ1 Q) (hm : P.follows .mixedOrders = true := by rfl) (hb : (backChk ops && segsChk ops 0 ms) = true := by rfl) (h : segsW P tb ops ms ops.toList σ (fun σ' => σ' = σ1) := by (repeat' first | dsimp | simp only [castRow_self] | apply And.intro | (refine Exists.intro _ (Exists.intro _ (And.intro (by first | exact CallStep.pure (by assumption) rfl (by rfl) | exact CallStep.rows (by assumption) rfl) ?_))) | (refine Exists.intro _ (And.intro (fun _ => And.intro ?_ (by first | exact CallStep.pure (by assumption) rfl (by rfl) | exact CallStep.rows (H1 := []) (by assumption) rfl)) ?_))) <;> first | rfl | trivial | assumption | omega | (intros; and_intros <;> first | rfl | trivial | assumption | omega) | (intro h; rw [h]; rfl) | (intro h1; exact ⟨⟨h1, trivial⟩, ⟨fun _ => trivial, fun h2 => by rw [h1, h2]; rfl⟩, trivial⟩) | (intro h1; exact ⟨⟨h1, trivial⟩, ⟨fun h2 => by rw [h1, h2]; rfl, fun _ => trivial⟩, trivial⟩)) : W P cx (.seq (.region id ops true) y) σ Q := W.seqA ms tok hm hb σ1 h hk
theorem W.bO {id : Nat} {Q : Exit → St → Prop} (ms : List Nat) (tok : TbOk P tb) {σ1 : St} (hk : Q .normal σ1) (hm : P.follows .mixedOrders = true := by rfl) (hb : (backChk ops && segsChk ops 0 ms) = true := by rfl) (h : segsW P tb ops ms ops.toList σ (fun σ' => σ' = σ1) := by (repeat' first | dsimp | simp only [castRow_self] | apply And.intro | (refine Exists.intro _ (Exists.intro _ (And.intro (by first | exact CallStep.pure (by assumption) rfl (by rfl) | exact CallStep.rows (by assumption) rfl) ?_))) | (refine Exists.intro _ (And.intro (fun _ => And.intro ?_ (by first | exact CallStep.pure (by assumption) rfl (by rfl) | exact CallStep.rows (H1 := []) (by assumption) rfl)) ?_))) <;> first | rfl | trivial | assumption | omega | (intros; and_intros <;> first | rfl | trivial | assumption | omega) | (intro h; rw [h]; rfl) | (intro h1; exact ⟨⟨h1, trivial⟩, ⟨fun _ => trivial, fun h2 => by rw [h1, h2]; rfl⟩, trivial⟩) | (intro h1; exact ⟨⟨h1, trivial⟩, ⟨fun h2 => by rw [h1, h2]; rfl, fun _ => trivial⟩, trivial⟩)) : W P cx (.region id ops true) σ Q := W.regA ms tok hm hb σ1 h hk
end
end Go.Den
end
