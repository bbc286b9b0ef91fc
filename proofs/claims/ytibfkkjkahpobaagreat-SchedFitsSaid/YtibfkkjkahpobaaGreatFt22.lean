import Derived.Test.YtibfkkjkahpobaaGreatFt21
set_option linter.unusedVariables false
set_option linter.unusedSimpArgs false
set_option maxHeartbeats 8000000
set_option maxRecDepth 100000
section
-- the texts that this claim needs, out of this session's and its print's (wip/shrink.py)
namespace Go.Den
open Go Go.RowKit
def pos : List Nat → Nat → Option Nat
  | [], _ => none
  | x :: r, i => bif nb x i then some 0 else (pos r i).map (· + 1)
theorem pos_at : ∀ {l : List Nat} {i j : Nat}, pos l i = some j → l[j]? = some i
  | [], i, j, h => by cases h
  | x :: r, i, j, h => by
    unfold pos at h
    cases hb : nb x i with
    | true =>
      rw [hb] at h; obtain rfl := Option.some.inj h
      rw [nb_eq hb]; rfl
    | false =>
      rw [hb] at h; obtain ⟨j', h1, rfl⟩ := Option.map_eq_some_iff.1 (show (pos r i).map (· + 1) = some j from h); simpa using pos_at h1
def C.ren (src : List Nat) : C → C
  | .own id => match pos src id with
    | some j => .own j
    | none => .dead
  | .sub id lo hi => match pos src id with
    | some j => .sub j lo hi
    | none => .dead
  | .ptr id off => match pos src id with
    | some j => .ptr j off
    | none => .dead
  | .elt id i off => match pos src id with
    | some j => .elt j i off
    | none => .dead
  | .fn f caps => match caps.mapM (pos src) with
    | some l => .fn f l
    | none => .dead
  | c => c
def S.ren (src : List Nat) : S → S
  | .undef => .undef
  | .one c => .one (c.ren src)
  | .agg l => .agg (l.map (C.ren src))
  | .tup l => .tup (l.map fun p => (p.1, p.2.map (C.ren src)))
  | .grd b s => .grd b (s.ren src)
  | .raw v => .raw v
def Blk.ren (src : List Nat) : Blk → Blk
  | .box t l => .box t (l.map (C.ren src))
  | b => b
def heapCut (src : List Nat) (h : List Blk) : List Blk := src.map fun i => (h.getD i .dead).ren src
def St.cut (live src : List Nat) (σ : St) : St := { env := live.map fun t => (t, (σ.get t).ren src), heap := heapCut src σ.heap, n := σ.n }
def srcOk (src : List Nat) (n0 n : Nat) : Bool := src.all (fun i => nlt i n) && decide src.Nodup && (List.range n0).all fun i => src[i]? == some i
section
variable {P : Program} {cx : Cx} {U U1 : Nat → Prop} {ρ ρ1 : Nat → Value} {σ : St} {h h1 : List Blk} {a : Act} {w w1 : World} {src : List Nat}
def ρcut (ρ : Nat → Value) (src : List Nat) : Nat → Value := fun j => ρ (src.getD j 0)
theorem cut_get {j i : Nat} (hl : ∀ i ∈ src, i < h.length) (hj : src[j]? = some i) : ∃ b, h[i]? = some b ∧ (heapCut src h)[j]? = some (b.ren src) := by
  have hi := hl i (List.mem_of_getElem? hj); refine ⟨h[i], List.getElem?_eq_getElem hi, ?_⟩; unfold heapCut; rw [List.getElem?_map, hj]; simp [hi]
theorem cut_rowK {j i : Nat} (hl : ∀ i ∈ src, i < h.length) (hj : src[j]? = some i) : rowK (heapCut src h) j = rowK h i := by
  obtain ⟨b, h1, h2⟩ := cut_get hl hj; unfold rowK; rw [h1, h2]
  cases b <;> rfl
theorem cut_isBox {j i : Nat} (hl : ∀ i ∈ src, i < h.length) (hj : src[j]? = some i) : isBox (heapCut src h) j = isBox h i := by
  obtain ⟨b, h1, h2⟩ := cut_get hl hj; unfold isBox; rw [h1, h2]
  cases b <;> rfl
theorem ρcut_at {j i : Nat} (hj : src[j]? = some i) : ρcut ρ src j = ρ i := by
  unfold ρcut; rw [List.getD_eq_getElem?_getD, hj]; rfl
theorem cut_place {j i : Nat} (hl : ∀ i ∈ src, i < h.length) (hj : src[j]? = some i) : place (ρcut ρ src) (heapCut src h) j = place ρ h i := by
  obtain ⟨b, h1, h2⟩ := cut_get hl hj; unfold place; rw [h1, h2, ρcut_at hj]
  cases b <;> rfl
theorem cut_lt {j i : Nat} (hj : src[j]? = some i) : j < (heapCut src h).length := by
  unfold heapCut; rw [List.length_map]; exact (List.getElem?_eq_some_iff.1 hj).1
theorem mapM_pos : ∀ {l r : List Nat}, l.mapM (pos src) = some r → All2 (fun i j => src[j]? = some i) l r
  | [], r, h => by
    obtain rfl : [] = r := by simpa using h
    exact All2.nil
  | x :: l, r, h => by
    rw [List.mapM_cons] at h
    cases h1 : pos src x with
    | none => rw [h1] at h; cases h
    | some j =>
      cases h2 : l.mapM (pos src) with
      | none => rw [h1, h2] at h; cases h
      | some r' =>
        rw [h1, h2] at h; obtain rfl := Option.some.inj h; exact All2.cons (pos_at h1) (mapM_pos h2)
theorem CR.ren (hl : ∀ i ∈ src, i < h.length) {c : C} {v : Value} (hc : CR U ρ h w c v) : CR U (ρcut ρ src) (heapCut src h) w (c.ren src) v := by
  have h1 := CR.one hc
  cases c with
  | own id =>
    show CR U (ρcut ρ src) (heapCut src h) w (match pos src id with | some j => .own j | none => .dead) v; split
    · rename_i j hj
      have hj := pos_at hj; exact ⟨h1, cut_lt hj, fun k hk => by rw [cut_rowK hl hj] at hk; rw [ρcut_at hj]; exact hc.2.2 k hk⟩
    · exact h1
  | sub id lo hi =>
    show CR U (ρcut ρ src) (heapCut src h) w (match pos src id with | some j => .sub j lo hi | none => .dead) v; split
    · rename_i j hj
      have hj := pos_at hj; exact ⟨h1, cut_lt hj, fun k hk => by rw [cut_rowK hl hj] at hk; rw [ρcut_at hj]; exact hc.2.2 k hk⟩
    · exact h1
  | ptr id off =>
    show CR U (ρcut ρ src) (heapCut src h) w (match pos src id with | some j => .ptr j off | none => .dead) v; split
    · rename_i j hj
      have hj := pos_at hj; exact ⟨h1, cut_lt hj, fun hk => by rw [cut_isBox hl hj] at hk; rw [ρcut_at hj]; exact hc.2.2 hk⟩
    · exact h1
  | elt id i off =>
    show CR U (ρcut ρ src) (heapCut src h) w (match pos src id with | some j => .elt j i off | none => .dead) v; split
    · rename_i j hj
      have hj := pos_at hj; exact ⟨h1, cut_lt hj, fun k hk => by rw [cut_rowK hl hj] at hk; rw [ρcut_at hj]; exact hc.2.2 k hk⟩
    · exact h1
  | fn f caps =>
    show CR U (ρcut ρ src) (heapCut src h) w (match caps.mapM (pos src) with | some l => .fn f l | none => .dead) v; split
    · rename_i l hm
      obtain ⟨vs, rfl, ha⟩ := hc; have hp := mapM_pos hm; refine ⟨vs, rfl, hp.1.symm.trans ha.1, fun i j u hj hu => ?_⟩
      obtain ⟨id, hid, hr⟩ : ∃ id, caps[i]? = some id ∧ src[j]? = some id := by
        have hi : i < caps.length := by rw [hp.1]; exact (List.getElem?_eq_some_iff.1 hj).1
        exact ⟨caps[i], List.getElem?_eq_getElem hi, hp.2 i _ j (List.getElem?_eq_getElem hi) hj⟩
      obtain ⟨a1, a2, a3⟩ := ha.2 i id u hid hu; exact ⟨a1, cut_lt hr, fun hb => by rw [cut_isBox hl hr] at hb; rw [ρcut_at hr]; exact a3 hb⟩
    · exact h1
  | _ => exact hc
theorem All2.ren (hl : ∀ i ∈ src, i < h.length) {l : List C} {us : List Value} (ha : All2 (CR U ρ h w) l us) : All2 (CR U (ρcut ρ src) (heapCut src h) w) (l.map (C.ren src)) us := ⟨by simpa using ha.1, fun i c v hc hv => by
  rw [List.getElem?_map] at hc
  cases hq : l[i]? with
  | none => rw [hq] at hc; cases hc
  | some c0 =>
    rw [hq] at hc; obtain rfl := Option.some.inj hc
    exact (ha.2 i c0 v hq hv).ren hl⟩
theorem SR.ren (hl : ∀ i ∈ src, i < h.length) : ∀ {s : S} {v : Value}, SR U ρ h w s v → SR U (ρcut ρ src) (heapCut src h) w (s.ren src) v
  | .undef, _, _ => trivial
  | .one c, _, hs => CR.ren hl hs
  | .agg l, _, ⟨us, hv, ha⟩ => ⟨us, hv, ha.ren hl⟩
  | .tup l, _, ⟨vs, hv, ha⟩ => ⟨vs, hv, by simpa using ha.1, fun i p v hp hv' => by
      rw [List.getElem?_map] at hp
      cases hq : l[i]? with
      | none => rw [hq] at hp; cases hp
      | some p0 =>
        rw [hq] at hp; obtain rfl := Option.some.inj hp; have := ha.2 i p0 v hq hv'; unfold PartR at this ⊢; split
        · rename_i hb
          rw [if_pos hb] at this; obtain ⟨cs, hv, ha⟩ := this; exact ⟨cs, hv, ha.ren hl⟩
        · rename_i hb
          rw [if_neg hb] at this; obtain ⟨c, hv, ha⟩ := this
          exact ⟨c.ren src, by show p0.2.map _ = _; rw [hv]; rfl, ha.ren hl⟩⟩
  | .grd b s, _, hs => ⟨fun hb => SR.ren hl (hs.1 hb), hs.2⟩
  | .raw _, _, hs => hs
theorem look_cut {σ : St} : ∀ (live : List Nat) (t : Nat), look (live.map fun t => (t, (σ.get t).ren src)) t = (σ.get t).ren src ∨ look (live.map fun t => (t, (σ.get t).ren src)) t = .undef
  | [], t => .inr rfl
  | x :: r, t => by
    show (bif nb x t then _ else _) = _ ∨ (bif nb x t then _ else _) = _
    cases hb : nb x t with
    | true => rw [nb_eq hb]; exact .inl rfl
    | false => exact look_cut r t
theorem cut_all {h0 : List Blk} {ρ0 : Nat → Value} {Z : Nat → Prop} (hs : srcOk src h0.length h.length = true) (hr : HR U ρ h w) (hext : Ext ρ0 h0 ρ h) (hpl : ∀ i g, place ρ h i = some g → Z g) :
    (∀ i ∈ src, i < h.length) ∧ HR U (ρcut ρ src) (heapCut src h) w ∧ Ext ρ0 h0 (ρcut ρ src) (heapCut src h) ∧ ∀ i g, place (ρcut ρ src) (heapCut src h) i = some g → Z g := by
  unfold srcOk at hs; simp only [Bool.and_eq_true] at hs; obtain ⟨⟨h1, h2⟩, h3⟩ := hs; have hl : ∀ i ∈ src, i < h.length := fun i hi => nle_le (List.all_eq_true.1 h1 i hi); have hnd : src.Nodup := of_decide_eq_true h2
  have hid : ∀ i, i < h0.length → src[i]? = some i := fun i hi => by
    have := List.all_eq_true.1 h3 i (List.mem_range.2 hi); simpa using this
  have hsrc : ∀ j b, (heapCut src h)[j]? = some b → ∃ i, src[j]? = some i := fun j b hb => by
    have hj : j < src.length := by have := (List.getElem?_eq_some_iff.1 hb).1; simpa [heapCut] using this
    exact ⟨src[j], List.getElem?_eq_getElem hj⟩
  have hpp : ∀ i g, place (ρcut ρ src) (heapCut src h) i = some g → ∃ i', src[i]? = some i' ∧ place ρ h i' = some g := fun i g hi => by
    have hlt := place_lt hi; have hi' : src[i]? = some (src[i]'(by simpa [heapCut] using hlt)) := List.getElem?_eq_getElem _; exact ⟨_, hi', (cut_place (ρ := ρ) hl hi').symm.trans hi⟩
  refine ⟨hl, ⟨fun j b hb => ?_, fun i j g hi hj => ?_, fun i g hi => ?_⟩, ⟨?_, fun i k hi hk => ?_, fun i hi hk => ?_⟩, fun i g hi => ?_⟩
  · obtain ⟨i, hi⟩ := hsrc j b hb; obtain ⟨b0, e1, e2⟩ := cut_get hl hi; rw [e2] at hb; obtain rfl := Option.some.inj hb; have hbr := hr.blk i b0 e1
    cases b0 with
    | box t l =>
      obtain ⟨g, arr, e3, e4, e5⟩ := hbr
      exact ⟨g, arr, by rw [ρcut_at hi]; exact e3, e4, e5.ren hl⟩
    | row e k xs =>
      obtain ⟨cs, e3, e4⟩ := hbr
      exact ⟨cs, by rw [ρcut_at hi]; exact e3, e4⟩
    | frz e k xs =>
      show KS U w _ _ [ρcut ρ src j]
      rw [ρcut_at hi]; exact hbr
    | dead => trivial
  · obtain ⟨i', hi', e1⟩ := hpp i g hi; obtain ⟨j', hj', e2⟩ := hpp j g hj; obtain rfl := hr.apart i' j' g e1 e2; exact (List.getElem?_inj (List.getElem?_eq_some_iff.1 hi').1 hnd).1 (hi'.trans hj'.symm)
  · obtain ⟨i', hi', e1⟩ := hpp i g hi; exact hr.inU i' g e1
  · unfold heapCut; rw [List.length_map]; rcases Nat.lt_or_ge src.length h0.length with h | h
    · have := hid src.length h; rw [List.getElem?_eq_none (Nat.le_refl _)] at this
      cases this
    · exact h
  · rw [cut_rowK hl (hid i hi)] at hk; obtain ⟨e1, e2⟩ := hext.row i k hi hk; exact ⟨e1, by rw [ρcut_at (hid i hi)]; exact e2⟩
  · rw [cut_isBox hl (hid i hi)] at hk; obtain ⟨e1, e2⟩ := hext.box i hi hk; exact ⟨e1, by rw [ρcut_at (hid i hi)]; exact e2⟩
  · obtain ⟨i', hi', e1⟩ := hpp i g hi; exact hpl i' g e1
theorem Le.cut (live : List Nat) (src : List Nat) (hs : srcOk src cx.h0.length σ.heap.length = true) : Le cx σ (σ.cut live src) := by
  intro a w ⟨U, ρ, r⟩; obtain ⟨hl, hhr, hex, hpl⟩ := cut_all hs r.hr r.ext r.places; refine ⟨U, ρcut ρ src, r.size, r.defers, fun t => ?_, hhr, r.agree, r.newU, r.oldU, hpl, hex⟩; rcases look_cut (src := src) (σ := σ) live t with e | e
  · have h2 : SR U (ρcut ρ src) (heapCut src σ.heap) w (look (live.map fun t => (t, (σ.get t).ren src)) t) (a.tmps.getD t undef) := by rw [e]; exact (r.env t).ren hl
    exact h2
  · have h2 : SR U (ρcut ρ src) (heapCut src σ.heap) w (look (live.map fun t => (t, (σ.get t).ren src)) t) (a.tmps.getD t undef) := by rw [e]; trivial
    exact h2
end
end Go.Den
end
section
-- the texts that this claim needs, out of this session's and its print's (wip/shrink.py)
namespace Go.Den
open Go Go.RowKit
section
variable {P : Program} {cx : Cx} {U U1 : Nat → Prop} {ρ ρ1 : Nat → Value} {σ : St} {h h1 : List Blk} {a : Act} {w w1 : World} {src : List Nat}
def resL (tb : Tb) (σ : St) : List ResultVar → List Blk → Option (List S × List Blk × Prop)
  | [], h => some ([], h, True)
  | .tmp t :: r, h => match resL tb σ r h with
    | some (l, h1, p) => some (σ.get t :: l, h1, p)
    | none => none
  | .cell t ty :: r, h => match isAddr h (σ.get t), loadR tb ty (σ.get t) h with
    | true, some (s, h1, p) => match resL tb σ r h1 with
      | some (l, h2, q) => some (s :: l, h2, p ∧ q)
      | none => none
    | _, _ => none
def partOf : S → Option (Bool × List C)
  | .one c => some (false, [c])
  | .agg l => some (true, l)
  | _ => none
def tupOf : List S → Option S
  | [s] => some s
  | l => match l.mapM partOf with
    | some ps => some (.tup ps)
    | none => none
def resOne (tmps : Array Value) : ResultVar → Sem Value
  | .tmp t => pure (tmps.getD t undef)
  | .cell a t => do loadVar t (← asAddr (tmps.getD a undef))
theorem results_eq (fn : Func) (tmps : Array Value) : results fn tmps = (do let vs ← fn.results.mapM (resOne tmps); pure (if h : vs.size = 1 then vs[0] else .tuple vs) : Sem Value) := by
  unfold results; congr
theorem resL_ok {tb : Tb} (ok : TbOk P tb) : ∀ (l : List ResultVar) {U : Nat → Prop} {h : List Blk} {ss : List S} {h1 : List Blk} {p : Prop}, resL tb σ l h = some (ss, h1, p) → p → HR U ρ h w → (∀ t, SR U ρ h w (σ.get t) (a.tmps.getD t undef)) →
    ∃ U1 vs, Go1 U ρ h w U1 ρ h1 w ∧ All2 (SR U1 ρ h1 w) ss vs ∧ ∀ acc : Array Value, (l.foldlM (fun bs x => bs.push <$> resOne a.tmps x) acc).run P w = .ok (acc ++ vs.toArray) w
  | [], U, h, ss, h1, p, hl, hp, hr, he => by
    obtain ⟨rfl, h2⟩ := (Prod.mk.injEq ..).mp (Option.some.inj hl); obtain ⟨rfl, rfl⟩ := (Prod.mk.injEq ..).mp h2
    exact ⟨U, [], Go1.refl hr, All2.nil, fun acc => by simp⟩
  | .tmp t :: r, U, h, ss, h1, p, hl, hp, hr, he => by
    unfold resL at hl; split at hl <;> try (cases hl; done)
    rename_i l h1' p' hq
    obtain ⟨rfl, h2⟩ := (Prod.mk.injEq ..).mp (Option.some.inj hl); obtain ⟨rfl, rfl⟩ := (Prod.mk.injEq ..).mp h2; obtain ⟨U1, vs, g, ha, hrun⟩ := resL_ok ok r hq hp hr he; refine ⟨U1, a.tmps.getD t undef :: vs, g, All2.cons (SR.tr (g.tr hr) g.ext (he t)) ha, fun acc => ?_⟩; rw [List.foldlM_cons]; simp only [map_eq_pure_bind, resOne, Sem.run_bind, Sem.run_pure, Result.andThen_ok] at hrun ⊢; rw [hrun]
    simp
  | .cell t ty :: r, U, h, ss, h1, p, hl, hp, hr, he => by
    unfold resL at hl; split at hl <;> try (cases hl; done)
    rename_i s h2 p1 hia hq
    split at hl <;> try (cases hl; done)
    rename_i l h3 p2 hq2
    obtain ⟨rfl, h4⟩ := (Prod.mk.injEq ..).mp (Option.some.inj hl); obtain ⟨rfl, rfl⟩ := (Prod.mk.injEq ..).mp h4; obtain ⟨ad, had⟩ := isAddr_ok hia (he t); obtain ⟨v, U1, hv, g1, hs1⟩ := loadR_ok' (P := P) ok hq hp.1 hr (he t); obtain ⟨U2, vs, g2, ha, hrun⟩ := resL_ok ok r hq2 hp.2 g1.hr (fun t => SR.tr (g1.tr hr) g1.ext (he t)); refine ⟨U2, v :: vs, g1.trans g2, All2.cons (SR.tr (g2.tr g1.hr) g2.ext hs1) ha, fun acc => ?_⟩; rw [had] at hv; have hv' : (loadVar ty ad).run P w = .ok v w := by simpa [Instr.loadAt, Instr.sureAddr] using hv
    rw [List.foldlM_cons]; simp only [map_eq_pure_bind, resOne, Sem.run_bind, Sem.run_pure, Result.andThen_ok, had, asAddr, hv'] at hrun ⊢; rw [hrun]; simp
theorem tupOf_ok {ss : List S} {s : S} {vs : List Value} (ht : tupOf ss = some s) (ha : All2 (SR U ρ h w) ss vs) : SR U ρ h w s (if hv : vs.toArray.size = 1 then vs.toArray[0] else .tuple vs.toArray) := by
  unfold tupOf at ht; split at ht
  · obtain rfl := Option.some.inj ht; obtain ⟨v, vs', rfl, h1, h2⟩ := ha.left_cons; obtain rfl := h2.left_nil; exact h1
  · rename_i hn
    split at ht <;> try (cases ht; done)
    rename_i ps hps
    obtain rfl := Option.some.inj ht
    have hlen : vs.toArray.size ≠ 1 := fun h1 => by
      have h2 : ss.length = 1 := by rw [ha.1]; simpa using h1
      cases ss with
      | nil => cases h2
      | cons s r => cases r with
        | nil => exact hn s rfl
        | cons _ _ => simp at h2
    rw [dif_neg hlen]; refine ⟨_, rfl, ?_⟩; show All2 _ ps vs; clear hn hlen ht
    induction ss generalizing vs ps with
    | nil =>
      rw [ha.left_nil]; obtain rfl : [] = ps := by simpa using hps
      exact All2.nil
    | cons s r ih =>
      obtain ⟨v, vs', rfl, h1, h2⟩ := ha.left_cons; rw [List.mapM_cons] at hps
      cases e1 : partOf s with
      | none => rw [e1] at hps; cases hps
      | some p =>
        cases e2 : r.mapM partOf with
        | none => rw [e1, e2] at hps; cases hps
        | some ps' =>
          rw [e1, e2] at hps; obtain rfl := Option.some.inj hps; refine All2.cons ?_ (ih h2 ps' e2); unfold partOf at e1; split at e1 <;> try (cases e1; done)
          · obtain rfl := Option.some.inj e1; exact ⟨_, rfl, h1⟩
          · obtain rfl := Option.some.inj e1; exact h1
def enum : Nat → List S → List (Nat × S)
  | _, [] => []
  | n, s :: r => (n, s) :: enum (n + 1) r
theorem look_enum : ∀ (l : List S) (n t : Nat), look (enum n l) t = if n ≤ t then (l[t - n]?).getD .undef else .undef
  | [], n, t => by simp [enum, look]
  | s :: r, n, t => by
    show (bif nb n t then s else look (enum (n + 1) r) t) = _
    cases hb : nb n t with
    | true =>
      obtain rfl := nb_eq hb
      simp
    | false =>
      have hne := nb_ne hb; show look (enum (n + 1) r) t = _; rw [look_enum r (n + 1) t]
      by_cases h1 : n + 1 ≤ t
      · rw [if_pos h1, if_pos (by omega)]; have : t - n = (t - (n + 1)) + 1 := by omega
        rw [this, List.getElem?_cons_succ]
      · rw [if_neg h1]; split
        · omega
        · rfl
def endW (tb : Tb) (fn : Func) (cx : Cx) (s : S) (h1 : List Blk) (σ : St) : Prop := match resL tb σ fn.results.toList σ.heap with
  | some (l, h2, p) => p ∧ match tupOf l with
    | some r => ∃ src : List Nat, srcOk src cx.h0.length h2.length = true ∧ r.ren src = s ∧ heapCut src h2 = h1
    | none => False
  | none => False
def fnQ (tb : Tb) (fn : Func) (cx : Cx) (s : S) (h1 : List Blk) : Exit → St → Prop
  | .normal, σ => endW tb fn cx s h1 σ
  | .ret, σ => endW tb fn cx s h1 σ
  | _, _ => False
theorem CallStep.intro {tb : Tb} {f : Nat} {fn : Func} {c : Code} {xs : List S} {s : S} (ok : TbOk P tb) (hf : P.funcs[f]? = some fn) (hn : (fn.name == "runtime.NumGoroutine") = false) (hb : fn.body = some c) (hlen : xs.length ≤ fn.ntmps)
    (hw : ∀ cx : Cx, cx.h0 = h → W P cx c { env := enum 0 xs, heap := h, n := fn.ntmps } (fnQ tb fn cx s h1)) : CallStep P f xs h s h1 := by
  refine ⟨⟨fn, c, hf, hn, hb⟩, fun U ρ w vs hr ha => ?_⟩; have hvl : vs.size = xs.length := by rw [ha.1]; simp
  let cx : Cx := { w0 := w, U0 := U, W0 := Wr ρ h, h0 := h, ρ0 := ρ }
  have r0 : R cx { env := enum 0 xs, heap := h, n := fn.ntmps } { tmps := vs ++ Array.replicate (fn.ntmps - vs.size) undef, defers := [] } w := by
    refine ⟨U, ρ, by simp; omega, rfl, fun t => ?_, hr, Agree.refl _ _, fun _ _ h => h, fun _ _ h => .inl h, fun i g hi => .inl ⟨i, hi⟩, Ext.refl _ _⟩; show SR U ρ h w (look (enum 0 xs) t) _; rw [look_enum, if_pos (Nat.zero_le _), Nat.sub_zero]
    cases hx : xs[t]? with
    | none => trivial
    | some x =>
      obtain ⟨v, hv, hs⟩ := ha.get hx; have hlt : t < vs.size := by rw [hvl]; exact (List.getElem?_eq_some_iff.1 hx).1
      have : (vs ++ Array.replicate (fn.ntmps - vs.size) undef).getD t undef = v := by
        rw [Array.getElem?_toList] at hv; rw [Array.getD_eq_getD_getElem?, Array.getElem?_append_left hlt, hv]; rfl
      rw [this]; exact hs
  refine calls_of_wp hf hb (wp_mono (hw cx rfl _ w r0) fun e a' w' h => ?_); obtain ⟨σ', hq, U1, ρ1, r1⟩ := h
  have fin : endW tb fn cx s h1 σ' → a'.defers = [] ∧ ∃ v, (results fn a'.tmps).run P w' = .ok v w' ∧ (∃ v1 U1 ρ1, Ending.returned v = .returned v1 ∧ Go1 U ρ h w U1 ρ1 h1 w' ∧ SR U1 ρ1 h1 w' s v1) := fun he => by
    unfold endW at he; split at he <;> try (exact he.elim)
    rename_i l h2 p hl
    obtain ⟨hp, he⟩ := he; split at he <;> try (exact he.elim)
    rename_i r hr'
    obtain ⟨src, hsrc, rfl, rfl⟩ := he; obtain ⟨U2, us, g2, ha2, hrun⟩ := resL_ok (P := P) (a := a') ok _ hl hp r1.hr r1.env; have r2 := r1.step g2; obtain ⟨hli, hhr, hex, hpl⟩ := cut_all hsrc r2.hr r2.ext r2.places; have hsr := (tupOf_ok hr' ha2).ren hli; refine ⟨r1.defers, _, ?_, _, U2, ρcut ρ1 src, rfl, ⟨r2.agree, r2.newU, r2.oldU, hhr, hex, hpl⟩, hsr⟩; have h3 := hrun #[]; rw [Array.foldlM_toList, ← Array.mapM_eq_foldlM] at h3; rw [results_eq]; simp only [Sem.run_bind]; rw [h3]; simp only [Result.andThen_ok, Sem.run_pure, Array.empty_append]
  cases e with
  | normal => exact fin hq
  | ret => exact fin hq
  | exit id => exact hq.elim
  | goto l => exact hq.elim
  | panic c => exact hq.elim
  | outgrown => exact hq.elim
end
end Go.Den
end
section
-- the texts that this claim needs, out of this session's and its print's (wip/shrink.py)
set_option linter.unnecessarySimpa false
namespace Go.Den
open Go Go.RowKit
def C.flat : C → Bool
  | .int _ _ => true
  | .bool _ => true
  | .str _ => true
  | _ => false
def C.val : C → Bool
  | .int _ _ => true
  | .bool _ => true
  | .str _ => true
  | .row _ _ _ => true
  | .nil => true
  | .fn _ [] => true
  | _ => false
def S.flat : S → Bool
  | .one c => c.flat
  | .agg l => l.all C.flat
  | .tup l => l.all fun p => p.2.all C.flat
  | _ => false
def closeArg (h : List Blk) : S → Option S
  | .one (.own id) => match h[id]? with
    | some (.row e k xs) => some (.one (.row e k xs))
    | some (.frz e k xs) => some (.one (.row e k xs))
    | _ => none
  | .one c => match c.val with
    | true => some (.one c)
    | false => none
  | .agg l => match l.all C.val with
    | true => some (.agg l)
    | false => none
  | _ => none
def closeArgs (h : List Blk) : List S → Option (List S)
  | [] => some []
  | s :: r => match closeArg h s, closeArgs h r with
    | some s', some r' => some (s' :: r')
    | _, _ => none
def snapIds (h : List Blk) : List S → List Nat
  | [] => []
  | .one (.own id) :: r => match h[id]? with
    | some (.row _ _ _) => id :: snapIds h r
    | _ => snapIds h r
  | _ :: r => snapIds h r
section
variable {P : Program} {cx : Cx} {U U1 : Nat → Prop} {ρ ρ1 : Nat → Value} {σ : St} {h h1 : List Blk} {a : Act} {w w1 : World}
theorem CR.of_val' {U1 : Nat → Prop} (ρ1 : Nat → Value) (h1 : List Blk) {c : C} {v : Value} (hv : c.val = true) (hu : ∀ b, b < w.heap.size → U1 b → U b) (hc : CR U ρ h w c v) : CR U1 ρ1 h1 w c v := by
  unfold C.val at hv; split at hv <;> first | exact hc | (exact KS.tr (k := .row _ _) hc ⟨Agree.refl _ _, hu⟩) | (cases hv; done) | skip
  obtain ⟨vs, hv', ha⟩ := hc
  exact ⟨vs, hv', by
    have := ha.left_nil
    rw [this]; exact All2.nil⟩
theorem CR.of_flat {U1 : Nat → Prop} (ρ1 : Nat → Value) (h1 : List Blk) (w1 : World) {c : C} {v : Value} (hv : c.flat = true) (hc : CR U ρ h w c v) : CR U1 ρ1 h1 w1 c v := by
  unfold C.flat at hv; split at hv <;> first | exact hc | cases hv
theorem All2.mem_imp {α β : Type} {R R' : α → β → Prop} {l : List α} {m : List β} (h : All2 R l m) (hr : ∀ a b, a ∈ l → R a b → R' a b) : All2 R' l m := ⟨h.1, fun i a b ha hb => hr a b (List.mem_of_getElem? ha) (h.2 i a b ha hb)⟩
theorem SR.of_flat {U1 : Nat → Prop} (ρ1 : Nat → Value) (h1 : List Blk) (w1 : World) {s : S} {v : Value} (hv : s.flat = true) (hs : SR U ρ h w s v) : SR U1 ρ1 h1 w1 s v := by
  cases s with
  | one c => exact CR.of_flat _ _ _ hv hs
  | agg l =>
    obtain ⟨cs, e, ha⟩ := hs
    exact ⟨cs, e, ha.mem_imp fun c u hc hr => CR.of_flat _ _ _ (List.all_eq_true.1 hv c hc) hr⟩
  | tup l =>
    obtain ⟨vs, e, ha⟩ := hs; refine ⟨vs, e, ha.mem_imp fun p u hp hr => ?_⟩; have hall := List.all_eq_true.1 hv p hp; unfold PartR at hr ⊢; split
    · rename_i hb
      rw [if_pos hb] at hr; obtain ⟨cs, e, ha⟩ := hr; exact ⟨cs, e, ha.mem_imp fun c u hc hr => CR.of_flat _ _ _ (List.all_eq_true.1 hall c hc) hr⟩
    · rename_i hb
      rw [if_neg hb] at hr; obtain ⟨c, e, hc⟩ := hr
      exact ⟨c, e, CR.of_flat _ _ _ (List.all_eq_true.1 hall c (by rw [e]; simp)) hc⟩
  | _ => cases hv
theorem closeArg_ok {U1 : Nat → Prop} (ρ1 : Nat → Value) (h1 : List Blk) {s s' : S} {v : Value} (hc : closeArg h s = some s') (hr : HR U ρ h w) (hu : ∀ b, b < w.heap.size → U1 b → U b) (hn : ∀ id g, id ∈ snapIds h [s] → place ρ h id = some g → ¬ U1 g) (hs : SR U ρ h w s v) : SR U1 ρ1 h1 w s' v := by
  unfold closeArg at hc; split at hc
  · rename_i id
    split at hc <;> try (cases hc; done)
    · rename_i e k xs hid
      obtain rfl := Option.some.inj hc; obtain ⟨cs, o1, o2⟩ := hr.blk _ _ hid; obtain rfl := hs.2.2 k (rowK_row hid); exact KS.of_owns o1 o2 hu (fun g hg => hn id g (by simp [snapIds, hid]) (by rw [place_row hid]; exact hg))
    · rename_i e k xs hid
      obtain rfl := Option.some.inj hc; obtain rfl := hs.2.2 k (by simp only [rowK, hid]); exact KS.tr (k := .row e k) (hr.blk _ _ hid) ⟨Agree.refl _ _, hu⟩
  · split at hc <;> try (cases hc; done)
    rename_i hv
    obtain rfl := Option.some.inj hc; exact CR.of_val' _ _ hv hu hs
  · split at hc <;> try (cases hc; done)
    rename_i hv
    obtain rfl := Option.some.inj hc; obtain ⟨cs, e, ha⟩ := hs; exact ⟨cs, e, ha.mem_imp fun c u hc hr => CR.of_val' _ _ (List.all_eq_true.1 hv c hc) hu hr⟩
  · cases hc
theorem snapIds_cons {s : S} {r : List S} {id : Nat} (h0 : id ∈ snapIds h [s] ∨ id ∈ snapIds h r) : id ∈ snapIds h (s :: r) := by
  cases s with
  | one c => cases c with
    | own i =>
      unfold snapIds; split
      · rename_i hi
        rcases h0 with h0 | h0
        · have : id = i := by simpa [snapIds, hi] using h0
          simp [this]
        · simp [h0]
      · rename_i hi
        rcases h0 with h0 | h0
        · unfold snapIds at h0; split at h0
          · rename_i e k xs hx; exact absurd hx (hi e k xs)
          · simp [snapIds] at h0
        · exact h0
    | _ => rcases h0 with h0 | h0 <;> simpa [snapIds] using h0
  | _ => rcases h0 with h0 | h0 <;> simpa [snapIds] using h0
theorem closeArgs_ok {U1 : Nat → Prop} (ρ1 : Nat → Value) (h1 : List Blk) : ∀ (l : List S) {l' : List S} {vs : List Value}, closeArgs h l = some l' → HR U ρ h w → (∀ b, b < w.heap.size → U1 b → U b) → (∀ id g, id ∈ snapIds h l → place ρ h id = some g → ¬ U1 g) → All2 (SR U ρ h w) l vs → All2 (SR U1 ρ1 h1 w) l' vs
  | [], l', vs, hc, hr, hu, hn, ha => by
    obtain rfl := Option.some.inj hc
    rw [ha.left_nil]; exact All2.nil
  | s :: r, l', vs, hc, hr, hu, hn, ha => by
    obtain ⟨v, vs', rfl, h2, h3⟩ := ha.left_cons; unfold closeArgs at hc; split at hc <;> try (cases hc; done)
    rename_i s' r' e1 e2
    obtain rfl := Option.some.inj hc; exact All2.cons (closeArg_ok ρ1 h1 e1 hr hu (fun id g hi => hn id g (snapIds_cons (.inl hi))) h2) (closeArgs_ok ρ1 h1 r e2 hr hu (fun id g hi => hn id g (snapIds_cons (.inr hi))) h3)
theorem HR.empty (U : Nat → Prop) (ρ : Nat → Value) (w : World) : HR U ρ [] w := ⟨fun id b hb => by simp at hb, fun i j g hi => by simp [place] at hi, fun i g hi => by simp [place] at hi⟩
theorem CallStep.pure {f : Nat} {xs xs' : List S} {s : S} {H1 : List Blk} (hs : CallStep P f xs' [] s H1) (hc : closeArgs h xs = some xs') (hf : s.flat = true) : CallStep P f xs h s h := by
  refine ⟨hs.enters, fun U ρ w vs hr ha => ?_⟩; have hx := closeArgs_ok (U1 := fun b => U b ∧ ¬ Wr ρ h b) ρ [] xs hc hr (fun b _ hb => hb.1) (fun id g _ hp hu => hu.2 ⟨id, hp⟩) ha; refine Calls.mono (hs.calls _ ρ w vs (HR.empty _ _ _) hx) ?_; rintro e w' ⟨v, U1, ρ1, rfl, g, hsr⟩; have ag : Agree (fun _ => False) w w' := g.agree.mono fun b _ ⟨i, hi⟩ => by simp [place] at hi
  exact ⟨v, _, ρ, rfl, Go1.alloc hr ag, SR.of_flat _ _ _ hf hsr⟩
def C.shift (n : Nat) : C → C
  | .own id => .own (id + n)
  | .sub id lo hi => .sub (id + n) lo hi
  | .ptr id off => .ptr (id + n) off
  | .elt id i off => .elt (id + n) i off
  | .fn f caps => .fn f (caps.map (· + n))
  | c => c
def S.shift (n : Nat) : S → S
  | .undef => .undef
  | .one c => .one (c.shift n)
  | .agg l => .agg (l.map (C.shift n))
  | .tup l => .tup (l.map fun p => (p.1, p.2.map (C.shift n)))
  | .grd b s => .grd b (s.shift n)
  | .raw v => .raw v
def Blk.shift (n : Nat) : Blk → Blk
  | .box t l => .box t (l.map (C.shift n))
  | b => b
def ρjoin (ρ : Nat → Value) (n : Nat) (ρ1 : Nat → Value) : Nat → Value := fun i => if i < n then ρ i else ρ1 (i - n)
def hjoin (h h1 : List Blk) : List Blk := h ++ h1.map (Blk.shift h.length)
theorem join_lt {i : Nat} (hi : i < h.length) : (hjoin h h1)[i]? = h[i]? := List.getElem?_append_left hi
theorem join_ge (i : Nat) : (hjoin h h1)[i + h.length]? = (h1[i]?).map (Blk.shift h.length) := by
  unfold hjoin; rw [List.getElem?_append_right (by omega), Nat.add_sub_cancel, List.getElem?_map]
theorem rowK_ge (i : Nat) : rowK (hjoin h h1) (i + h.length) = rowK h1 i := by
  unfold rowK; rw [join_ge]
  cases h1[i]? with
  | none => rfl
  | some b => cases b <;> rfl
theorem isBox_ge (i : Nat) : isBox (hjoin h h1) (i + h.length) = isBox h1 i := by
  unfold isBox; rw [join_ge]
  cases h1[i]? with
  | none => rfl
  | some b => cases b <;> rfl
theorem ρjoin_ge (i n : Nat) : ρjoin ρ n ρ1 (i + n) = ρ1 i := by unfold ρjoin; rw [if_neg (by omega), Nat.add_sub_cancel]
theorem ρjoin_lt {i n : Nat} (hi : i < n) : ρjoin ρ n ρ1 i = ρ i := by unfold ρjoin; rw [if_pos hi]
theorem place_ge (i : Nat) : place (ρjoin ρ h.length ρ1) (hjoin h h1) (i + h.length) = place ρ1 h1 i := by
  unfold place; rw [join_ge, ρjoin_ge]
  cases h1[i]? with
  | none => rfl
  | some b => cases b <;> rfl
theorem place_lt' {i : Nat} (hi : i < h.length) : place (ρjoin ρ h.length ρ1) (hjoin h h1) i = place ρ h i := by
  unfold place; rw [join_lt hi, ρjoin_lt hi]
theorem len_join : (hjoin h h1).length = h.length + h1.length := by simp [hjoin]
theorem CR.shift {c : C} {v : Value} (hc : CR U ρ1 h1 w c v) : CR U (ρjoin ρ h.length ρ1) (hjoin h h1) w (c.shift h.length) v := by
  cases c with
  | own id => exact ⟨hc.1, by rw [len_join]; have := hc.2.1; omega, fun k hk => by rw [rowK_ge] at hk; rw [ρjoin_ge]; exact hc.2.2 k hk⟩
  | sub id lo hi => exact ⟨hc.1, by rw [len_join]; have := hc.2.1; omega, fun k hk => by rw [rowK_ge] at hk; rw [ρjoin_ge]; exact hc.2.2 k hk⟩
  | ptr id off => exact ⟨hc.1, by rw [len_join]; have := hc.2.1; omega, fun hk => by rw [isBox_ge] at hk; rw [ρjoin_ge]; exact hc.2.2 hk⟩
  | elt id i off => exact ⟨hc.1, by rw [len_join]; have := hc.2.1; omega, fun k hk => by rw [rowK_ge] at hk; rw [ρjoin_ge]; exact hc.2.2 k hk⟩
  | fn f caps =>
    obtain ⟨vs, rfl, ha⟩ := hc; refine ⟨vs, rfl, by simpa using ha.1, fun i j u hj hu => ?_⟩; rw [List.getElem?_map] at hj
    cases hq : caps[i]? with
    | none => rw [hq] at hj; cases hj
    | some id =>
      rw [hq] at hj; obtain rfl := Option.some.inj hj; obtain ⟨a1, a2, a3⟩ := ha.2 i id u hq hu
      exact ⟨a1, by rw [len_join]; show id + h.length < _; omega, fun hb => by rw [isBox_ge] at hb; rw [ρjoin_ge]; exact a3 hb⟩
  | _ => exact hc
theorem All2.shift {l : List C} {us : List Value} (ha : All2 (CR U ρ1 h1 w) l us) : All2 (CR U (ρjoin ρ h.length ρ1) (hjoin h h1) w) (l.map (C.shift h.length)) us := ⟨by simpa using ha.1, fun i c v hc hv => by
  rw [List.getElem?_map] at hc
  cases hq : l[i]? with
  | none => rw [hq] at hc; cases hc
  | some c0 =>
    rw [hq] at hc; obtain rfl := Option.some.inj hc
    exact (ha.2 i c0 v hq hv).shift⟩
theorem SR.shift : ∀ {s : S} {v : Value}, SR U ρ1 h1 w s v → SR U (ρjoin ρ h.length ρ1) (hjoin h h1) w (s.shift h.length) v
  | .undef, _, _ => trivial
  | .one c, _, hs => CR.shift hs
  | .agg l, _, ⟨us, hv, ha⟩ => ⟨us, hv, ha.shift⟩
  | .tup l, _, ⟨vs, hv, ha⟩ => ⟨vs, hv, by simpa using ha.1, fun i p v hp hv' => by
      rw [List.getElem?_map] at hp
      cases hq : l[i]? with
      | none => rw [hq] at hp; cases hp
      | some p0 =>
        rw [hq] at hp; obtain rfl := Option.some.inj hp; have := ha.2 i p0 v hq hv'; unfold PartR at this ⊢; split
        · rename_i hb
          rw [if_pos hb] at this; obtain ⟨cs, hv, ha⟩ := this; exact ⟨cs, hv, ha.shift⟩
        · rename_i hb
          rw [if_neg hb] at this; obtain ⟨c, hv, ha⟩ := this
          exact ⟨c.shift h.length, by show p0.2.map _ = _; rw [hv]; rfl, ha.shift⟩⟩
  | .grd b s, _, hs => ⟨fun hb => SR.shift (hs.1 hb), hs.2⟩
  | .raw _, _, hs => hs
theorem Go1.join {ρ0 : Nat → Value} (hr : HR U ρ h w) (g : Go1 U ρ0 [] w U1 ρ1 h1 w1) : Go1 U ρ h w U1 (ρjoin ρ h.length ρ1) (hjoin h h1) w1 := by
  have ag : Agree (fun _ => False) w w1 := g.agree.mono fun b _ ⟨i, hi⟩ => by simp [place] at hi
  have tr : Tr U w U1 w1 := ⟨ag.mono (fun _ _ h => h.elim), g.less⟩
  have hkeep : ∀ b, b < w.heap.size → U b → U1 b := fun b hb hu => (g.keep b hb hu).resolve_right fun ⟨i, hi⟩ => by simp [place] at hi
  have hnew : ∀ i x, place ρ1 h1 i = some x → w.heap.size ≤ x := fun i x hi => (g.places i x hi).resolve_left fun ⟨i, hi⟩ => by simp [place] at hi
  have ex : Ext ρ h (ρjoin ρ h.length ρ1) (hjoin h h1) := ⟨by rw [len_join]; omega, fun i k hi hk => ⟨by unfold rowK at hk ⊢; rwa [join_lt hi] at hk, ρjoin_lt hi⟩, fun i hi hk => ⟨by unfold isBox at hk ⊢; rwa [join_lt hi] at hk, ρjoin_lt hi⟩⟩
  have split : ∀ i x, place (ρjoin ρ h.length ρ1) (hjoin h h1) i = some x → (i < h.length ∧ place ρ h i = some x) ∨ ∃ j, i = j + h.length ∧ place ρ1 h1 j = some x := fun i x hi => by
    rcases Nat.lt_or_ge i h.length with hl | hl
    · rw [place_lt' hl] at hi; exact .inl ⟨hl, hi⟩
    · refine .inr ⟨i - h.length, by omega, ?_⟩; rw [← place_ge (ρ := ρ) (h := h), Nat.sub_add_cancel hl]; exact hi
  refine ⟨ag.mono (fun _ _ h => h.elim), g.less, fun b hb hu => .inl (hkeep b hb hu), ⟨fun i b hb => ?_, fun i j x hi hj => ?_, fun i x hi => ?_⟩, ex, fun i x hi => ?_⟩
  · rcases Nat.lt_or_ge i h.length with hl | hl
    · rw [join_lt hl] at hb; exact (hr.blk i b hb).tr hb tr ex (fun _ _ e => by subst e; exact ρjoin_lt hl) (fun x hx => ag.block x (hr.inU i x hx).2 (fun h => h))
    · have hi : i = (i - h.length) + h.length := by omega
      rw [hi, join_ge] at hb
      cases hq : h1[i - h.length]? with
      | none => rw [hq] at hb; cases hb
      | some b0 =>
        rw [hq] at hb; obtain rfl := Option.some.inj hb; have hbr := g.hr.blk _ _ hq; rw [hi]
        cases b0 with
        | box t l =>
          obtain ⟨gg, arr, e1, e2, e3⟩ := hbr
          exact ⟨gg, arr, by rw [ρjoin_ge]; exact e1, e2, e3.shift⟩
        | row e k xs =>
          obtain ⟨cs, e1, e2⟩ := hbr
          exact ⟨cs, by rw [ρjoin_ge]; exact e1, e2⟩
        | frz e k xs =>
          show KS U1 w1 _ _ [ρjoin ρ h.length ρ1 _]
          rw [ρjoin_ge]; exact hbr
        | dead => trivial
  · rcases split i x hi with ⟨h2, h3⟩ | ⟨i', e1, h3⟩ <;> rcases split j x hj with ⟨g2, g3⟩ | ⟨j', e2, g3⟩
    · exact hr.apart i j x h3 g3
    · have := (hr.inU i x h3).2; have := hnew j' x g3; omega
    · have := (hr.inU j x g3).2; have := hnew i' x h3; omega
    · rw [e1, e2, g.hr.apart i' j' x h3 g3]
  · rcases split i x hi with ⟨h2, h3⟩ | ⟨i', e1, h3⟩
    · have := hr.inU i x h3; exact ⟨hkeep x this.2 this.1, Nat.lt_of_lt_of_le this.2 ag.size⟩
    · exact g.hr.inU i' x h3
  · rcases split i x hi with ⟨h2, h3⟩ | ⟨i', e1, h3⟩
    · exact .inl ⟨i, h3⟩
    · exact .inr (hnew i' x h3)
def freezeL : List Nat → List Blk → List Blk
  | [], h => h
  | id :: r, h => match h[id]? with
    | some (.row e k xs) => freezeL r (h.set id (.frz e k xs))
    | _ => freezeL r h
theorem freezeL_ok : ∀ (l : List Nat) {U : Nat → Prop} {h : List Blk}, HR U ρ h w → ∃ U1, Go1 U ρ h w U1 ρ (freezeL l h) w ∧ ∀ id g, id ∈ l → place ρ h id = some g → isBox h id = false → ¬ U1 g
  | [], U, h, hr => ⟨U, Go1.refl hr, fun id g hi => by cases hi⟩
  | id :: r, U, h, hr => by
    unfold freezeL; split
    · rename_i e k xs hid
      have g0 := Go1.freeze hr hid; obtain ⟨U1, g1, hn⟩ := freezeL_ok r g0.hr; refine ⟨U1, g0.trans g1, fun i x hi hp hb hu => ?_⟩
      by_cases e1 : i = id
      · subst e1; exact (g1.less x (hr.inU i x hp).2 hu).2 hp
      · rcases List.mem_cons.1 hi with h2 | h2
        · exact e1 h2
        · refine hn i x h2 ?_ ?_ hu
          · simpa [place, get_set_ne (Ne.symm e1)] using hp
          · simpa [isBox, get_set_ne (Ne.symm e1)] using hb
    · rename_i hne
      obtain ⟨U1, g1, hn⟩ := freezeL_ok r hr; refine ⟨U1, g1, fun i x hi hp hb hu => ?_⟩; rcases List.mem_cons.1 hi with h2 | h2
      · subst h2; unfold place at hp; split at hp
        · rename_i e k xs hx; exact hne e k xs hx
        · rename_i hx; unfold isBox at hb; rw [hx] at hb; cases hb
        · cases hp
      · exact hn i x h2 hp hb hu
theorem snapIds_row : ∀ (l : List S) {id : Nat}, id ∈ snapIds h l → isBox h id = false
  | [], id, hi => by cases hi
  | s :: r, id, hi => by
    have : id ∈ snapIds h r ∨ ∃ e k xs, h[id]? = some (.row e k xs) := by
      cases s with
      | one c => cases c with
        | own i =>
          unfold snapIds at hi; split at hi
          · rename_i e k xs hx
            rcases List.mem_cons.1 hi with h2 | h2
            · subst h2; exact .inr ⟨e, k, xs, hx⟩
            · exact .inl h2
          · exact .inl hi
        | _ => exact .inl (by simpa [snapIds] using hi)
      | _ => exact .inl (by simpa [snapIds] using hi)
    rcases this with h2 | ⟨e, k, xs, h2⟩
    · exact snapIds_row r h2
    · unfold isBox; rw [h2]
theorem CallStep.rows {f : Nat} {xs xs' : List S} {s : S} {H1 : List Blk} (hs : CallStep P f xs' [] s H1) (hc : closeArgs h xs = some xs') : CallStep P f xs h (s.shift (freezeL (snapIds h xs) h).length) (hjoin (freezeL (snapIds h xs) h) H1) := by
  refine ⟨hs.enters, fun U ρ w vs hr ha => ?_⟩; obtain ⟨U1, g1, hn⟩ := freezeL_ok (snapIds h xs) hr; have hx := closeArgs_ok (U1 := U1) ρ [] xs hc hr g1.less (fun id g hi hp => hn id g hi hp (snapIds_row xs hi)) ha; refine Calls.mono (hs.calls _ ρ w vs (HR.empty _ _ _) hx) ?_; rintro e w' ⟨v, U2, ρ2, rfl, g2, hsr⟩; exact ⟨v, _, _, rfl, g1.trans (Go1.join g1.hr g2), hsr.shift⟩
end
end Go.Den
end
section
-- the texts that this claim needs, out of this session's and its print's (wip/shrink.py)
namespace Go.Den
open Go Go.RowKit
section
variable {P : Program} {cx : Cx} {U U1 : Nat → Prop} {ρ ρ1 : Nat → Value} {σ : St} {h h1 : List Blk} {a : Act} {w w1 : World} {ops : Array Oper}
def tmpsOf : List Operand → List Nat
  | [] => []
  | x :: r => match x with
    | .tmp t => t :: tmpsOf r
    | .const _ => tmpsOf r
    | .global _ => tmpsOf r
    | .func _ => tmpsOf r
def dstOf (ops : Array Oper) (j : Nat) : Option Nat := match ops[j]? with
  | some o => o.dst
  | none => none
def readsOf (ops : Array Oper) (o : Oper) : List Nat := tmpsOf (opnds o.op) ++ match o.guard with
  | some (j, _) => (dstOf ops j).toList
  | none => []
def onlyE (e : List (Nat × S)) : List Nat → List (Nat × S)
  | [] => []
  | t :: r => (t, look e t) :: onlyE e r
def St.only (σ : St) (ts : List Nat) : St := { σ with env := onlyE σ.env ts }
theorem look_only (σ : St) (t : Nat) : ∀ ts : List Nat, look (onlyE σ.env ts) t = if t ∈ ts then σ.get t else .undef
  | [] => by simp [look, onlyE]
  | t' :: r => by
    show (bif nb t' t then σ.get t' else look (onlyE σ.env r) t) = _
    cases hb : nb t' t with
    | true =>
      obtain rfl := nb_eq hb
      simp
    | false =>
      have hne := nb_ne hb; show look (onlyE σ.env r) t = _; rw [look_only σ t r]; simp [Ne.symm hne]
theorem R0.of_get {σ' : St} (r : R0 cx U ρ σ' a w) (hh : σ'.heap = σ.heap) (hn : σ'.n = σ.n) (hg : ∀ t, σ.get t = σ'.get t ∨ σ.get t = .undef) : R0 cx U ρ σ a w where
  size := by rw [← hn]; exact r.size
  defers := r.defers
  env t := by
    rcases hg t with hg | hg
    · rw [hg, ← hh]; exact r.env t
    · rw [hg]; trivial
  hr := by rw [← hh]; exact r.hr
  agree := r.agree
  newU := r.newU
  oldU := r.oldU
  places := by rw [← hh]; exact r.places
  ext := by rw [← hh]; exact r.ext
theorem R.of_get {σ' : St} (r : R cx σ' a w) (hh : σ'.heap = σ.heap) (hn : σ'.n = σ.n) (hg : ∀ t, σ.get t = σ'.get t ∨ σ.get t = .undef) : R cx σ a w := by
  obtain ⟨U, ρ, r⟩ := r; exact ⟨U, ρ, r.of_get hh hn hg⟩
theorem R0.only (r : R0 cx U ρ σ a w) (ts : List Nat) : R0 cx U ρ (σ.only ts) a w := r.of_get rfl rfl fun t => by
  show look (onlyE σ.env ts) t = _ ∨ look (onlyE σ.env ts) t = _; rw [look_only]; split
  · exact .inl rfl
  · exact .inr rfl
theorem only_congr {σ' : St} {ts : List Nat} (hh : σ'.heap = σ.heap) (hn : σ'.n = σ.n) (hg : ∀ t ∈ ts, σ'.get t = σ.get t) : σ'.only ts = σ.only ts := by
  unfold St.only
  have : ∀ ts : List Nat, (∀ t ∈ ts, σ'.get t = σ.get t) → onlyE σ'.env ts = onlyE σ.env ts := fun ts => by
    induction ts with
    | nil => intro _; rfl
    | cons t r ih =>
      intro h; show (t, look σ'.env t) :: _ = (t, look σ.env t) :: _; rw [ih fun t ht => h t (by simp [ht]), show look σ'.env t = look σ.env t from h t (by simp)]
  have := this ts hg; rw [this]
  cases σ; cases σ'
  simp only at hh hn; simp [hh, hn]
def stepA (P : Program) (tb : Tb) (ops : Array Oper) (ow : Bool) (o : Oper) (σ : St) (K : S → List Blk → Prop) : Prop := match o.guard with
  | none => opW P tb ow o σ K
  | some (j, want) => match guardOf σ ops j want with
    | some g => opG P tb ow o g σ fun s => K s σ.heap
    | none => False
theorem stepA_ok {tb : Tb} {ow : Bool} {i : Nat} {o : Oper} {K : S → List Blk → Prop} {Q : Exit → Act → World → Prop} {K' : Act → World → Prop} (ok : TbOk P tb) (hi : ops[i]? = some o) (hw : stepA P tb ops ow o σ K) (r : R0 cx U ρ σ a w)
    (hk : ∀ s h1 v w1 U1 ρ1, K s h1 → Go1 U ρ σ.heap w U1 ρ1 h1 w1 → SR U1 ρ1 h1 w1 s v → K' (a.put o.dst v) w1) : wpOp P ops Q i K' a w := by
  unfold wpOp; simp only [hi]; unfold stepA at hw; split at hw
  · rename_i hgd
    have hwant : Region.wanted o (yielded ops a.tmps) = true := by unfold Region.wanted; rw [hgd]
    rw [if_pos hwant]; exact .inl (opW_ok ok hw r hk)
  · rename_i j want hgd
    split at hw <;> try (exact hw.elim)
    rename_i g hg
    have hy := guardOf_ok hg r; have hwant : Region.wanted o (yielded ops a.tmps) = g := by unfold Region.wanted; rw [hgd]; exact hy
    rw [hwant]
    cases g with
    | false =>
      simp only [Bool.false_eq_true, if_false]; have hu : ∀ s, SR U ρ σ.heap w (.grd false s) undef := fun s => ⟨(fun h => by cases h), (fun _ => rfl)⟩
      unfold opG at hw; split at hw
      · split at hw <;> try (exact hw.elim)
        obtain ⟨s, hw⟩ := hw; exact hk _ _ _ _ _ _ hw.2 (Go1.refl r.hr) (hu s)
      · split at hw <;> try (exact hw.elim)
        exact hk _ _ _ _ _ _ hw.2 (Go1.refl r.hr) (hu _)
    | true =>
      rw [if_pos rfl]; refine .inl ?_; unfold opG at hw; split at hw
      · rename_i c hc
        split at hw <;> try (exact hw.elim)
        rename_i f caps hcal
        obtain ⟨s, hs, hks⟩ := hw; obtain ⟨hgp, hs⟩ := hs rfl; exact wp_call hc hcal hgp hs r fun v w1 U1 ρ1 g hsr => hk _ _ _ _ _ _ hks g ⟨fun _ => hsr, fun h => by cases h⟩
      · split at hw <;> try (exact hw.elim)
        rename_i s h1 p ho
        obtain ⟨hp0, hks⟩ := hw; obtain ⟨hgp, hp, rfl⟩ := hp0 rfl; obtain ⟨v, w1, U1, ρ1, hrun, g, hsr⟩ := opR_ok (P := P) (ev := a.eval) ok ho hp r.hr r.ev hgp; have hsr' : SR U1 ρ1 σ.heap w1 (.grd true s) v := ⟨fun _ => hsr, fun h => by cases h⟩
        unfold Oper.wp; rcases hrun with hrun | ⟨hrun, rfl⟩
        · rw [hrun]; exact hk _ _ _ _ _ _ hks g hsr'
        · rw [hrun]; exact hk _ _ _ _ _ _ hks g hsr'
theorem opW_ex {tb : Tb} {ow : Bool} {o : Oper} {K : S → List Blk → Prop} (hw : opW P tb ow o σ K) : ∃ s h1, opW P tb ow o σ (fun s' h' => s' = s ∧ h' = h1) ∧ K s h1 := by
  unfold opW at hw ⊢; split at hw
  · split at hw <;> try (exact hw.elim)
    obtain ⟨hg, s, h1, hs, hk⟩ := hw; exact ⟨s, h1, ⟨hg, s, h1, hs, rfl, rfl⟩, hk⟩
  · split at hw <;> try (exact hw.elim)
    obtain ⟨hg, hp, hk⟩ := hw; exact ⟨_, _, ⟨hg, hp, rfl, rfl⟩, hk⟩
theorem opG_ex {tb : Tb} {ow g : Bool} {o : Oper} {K : S → Prop} (hw : opG P tb ow o g σ K) : ∃ s, opG P tb ow o g σ (fun s' => s' = s) ∧ K s := by
  unfold opG at hw ⊢; split at hw
  · split at hw <;> try (exact hw.elim)
    obtain ⟨s, hs, hk⟩ := hw; exact ⟨_, ⟨s, hs, rfl⟩, hk⟩
  · split at hw <;> try (exact hw.elim)
    obtain ⟨hp, hk⟩ := hw; exact ⟨_, ⟨hp, rfl⟩, hk⟩
theorem stepA_ex {tb : Tb} {ow : Bool} {o : Oper} {K : S → List Blk → Prop} (hw : stepA P tb ops ow o σ K) : ∃ s h1, stepA P tb ops ow o σ (fun s' h' => s' = s ∧ h' = h1) ∧ K s h1 := by
  unfold stepA at hw ⊢; split at hw
  · exact opW_ex hw
  · split at hw <;> try (exact hw.elim)
    obtain ⟨s, hs, hk⟩ := opG_ex hw; refine ⟨s, σ.heap, ?_, hk⟩; have : (fun s' : S => s' = s) = fun s' => s' = s ∧ σ.heap = σ.heap := by funext s'; simp
    rw [this] at hs; exact hs
def putE (d : Option Nat) (s : S) (e : List (Nat × S)) : List (Nat × S) := match d with
  | none => e
  | some d => (d, s) :: e
def segA (P : Program) (tb : Tb) (ops : Array Oper) : List Oper → St → (St → Prop) → Prop
  | [], σ, K => K σ
  | o :: r, σ, K => stepA P tb ops false o (σ.only (readsOf ops o)) fun s h1 => h1 = σ.heap ∧ σ.put o.dst s σ.heap fun σ' => segA P tb ops r σ' K
theorem put_eq {d : Option Nat} {s : S} {K : St → Prop} (hk : σ.put d s h K) : (∀ x, d = some x → x < σ.n) ∧ K { env := putE d s σ.env, heap := h, n := σ.n } := by
  unfold St.put at hk
  cases d with
  | none => exact ⟨(fun x h => by cases h), hk⟩
  | some d =>
    simp only [] at hk
    cases hd : nlt d σ.n with
    | false => rw [hd] at hk; exact hk.elim
    | true =>
      rw [hd] at hk; exact ⟨fun x h => by rw [← Option.some.inj h]; exact nle_le hd, hk⟩
structure Vals (P : Program) (tb : Tb) (ops : Array Oper) (a0 : Nat) (l : List Oper) (σ : St) (vals : Nat → S) (σs : Nat → St) : Prop where
  zero : σs a0 = σ
  at_ : ∀ k o, l[k]? = some o → (∀ d, o.dst = some d → d < σ.n) ∧ stepA P tb ops false o ((σs (a0 + k)).only (readsOf ops o)) (fun s h1 => s = vals (a0 + k) ∧ h1 = σ.heap)
  next : ∀ k o, l[k]? = some o → σs (a0 + k + 1) = { env := putE o.dst (vals (a0 + k)) (σs (a0 + k)).env, heap := σ.heap, n := σ.n }
theorem segA_vals {tb : Tb} {K : St → Prop} : ∀ (l : List Oper) (a0 : Nat) (σ : St), segA P tb ops l σ K → ∃ vals σs, Vals P tb ops a0 l σ vals σs ∧ K (σs (a0 + l.length))
  | [], a0, σ, hw => ⟨fun _ => .undef, fun _ => σ, ⟨rfl, (fun k o h => by simp at h), (fun k o h => by simp at h)⟩, hw⟩
  | o :: r, a0, σ, hw => by
    obtain ⟨s, h1, hs, rfl, hk⟩ := stepA_ex hw; obtain ⟨hd, hk⟩ := put_eq hk; obtain ⟨vals, σs, hv, hk⟩ := segA_vals r (a0 + 1) _ hk; refine ⟨fun j => if j = a0 then s else vals j, fun j => if j ≤ a0 then σ else σs j, ⟨by simp, fun k o' ho => ?_, fun k o' ho => ?_⟩, ?_⟩
    · cases k with
      | zero =>
        obtain rfl := Option.some.inj (show some o = some o' from ho); refine ⟨hd, ?_⟩
        simpa using hs
      | succ k =>
        have := hv.at_ k o' (by simpa using ho); rw [show a0 + (k + 1) = a0 + 1 + k by omega]; rw [if_neg (by omega), if_neg (by omega)]; exact this
    · cases k with
      | zero =>
        obtain rfl := Option.some.inj (show some o = some o' from ho); simp only [Nat.add_zero, if_true, Nat.le_refl]
        rw [if_neg (by omega), hv.zero]
      | succ k =>
        have := hv.next k o' (by simpa using ho); rw [show a0 + (k + 1) = a0 + 1 + k by omega]; rw [if_neg (by omega), if_neg (by omega), if_neg (by omega)]; exact this
    · show K (if a0 + (r.length + 1) ≤ a0 then σ else σs (a0 + (r.length + 1))); rw [if_neg (by omega), show a0 + (r.length + 1) = a0 + 1 + r.length by omega]; exact hk
theorem look_putE (d : Option Nat) (s : S) (e : List (Nat × S)) (t : Nat) : look (putE d s e) t = if d = some t then s else look e t := by
  cases d with
  | none => simp [putE]
  | some d =>
    show (bif nb d t then s else look e t) = _
    cases hb : nb d t with
    | true => obtain rfl := nb_eq hb; simp
    | false => have := nb_ne hb; simp [this]
def edge (ops : Array Oper) (k j : Nat) : Bool := match ops[k]? with
  | some o => o.after.toList.any fun e => Region.binds .any e && nb e.on j
  | none => false
def reachB (ops : Array Oper) : Nat → Nat → Nat → Bool
  | 0, _, _ => false
  | f + 1, k, j => edge ops k j || (List.range k).any fun e => edge ops k e && reachB ops f e j
def segChk (ops : Array Oper) (a0 m : Nat) : Bool :=
  ((List.range' a0 m).all fun i => (List.range' a0 m).all fun j => nb i j || match dstOf ops i with
    | some t => !((dstOf ops j).any fun t' => nb t' t)
    | none => true) &&
  ((List.range' a0 m).all fun i => match ops[i]? with
    | some o => (readsOf ops o).all fun t => (List.range' a0 m).all fun j => !((dstOf ops j).any fun t' => nb t' t) || (nlt j i && edge ops i j)
    | none => false) &&
  (nle ops.size (a0 + m) || ((List.range' a0 m).all fun j => reachB ops ops.size (a0 + m) j)) &&
  ((List.range' (a0 + m + 1) (ops.size - (a0 + m + 1))).all fun k => (List.range' (a0 + m) (k - (a0 + m))).any fun e => edge ops k e)
def segsChk (ops : Array Oper) : Nat → List Nat → Bool
  | a0, [] => nb a0 ops.size
  | a0, m :: ms => segChk ops a0 m && segsChk ops (a0 + m) ms
def backChk (ops : Array Oper) : Bool := (List.range ops.size).all fun k => match ops[k]? with
  | some o => o.after.toList.all fun e => !Region.binds .any e || nlt e.on k
  | none => true
structure SegOk (ops : Array Oper) (a0 m : Nat) : Prop where
  uniq : ∀ i j t, a0 ≤ i → i < a0 + m → a0 ≤ j → j < a0 + m → dstOf ops i = some t → dstOf ops j = some t → i = j
  reads : ∀ i o, a0 ≤ i → i < a0 + m → ops[i]? = some o → ∀ t ∈ readsOf ops o, ∀ j, a0 ≤ j → j < a0 + m → dstOf ops j = some t → j < i ∧ edge ops i j = true
  bar : a0 + m < ops.size → ∀ j, a0 ≤ j → j < a0 + m → reachB ops ops.size (a0 + m) j = true
  late : ∀ k, a0 + m < k → k < ops.size → ∃ e, a0 + m ≤ e ∧ e < k ∧ edge ops k e = true
theorem any_beq {o : Option Nat} {t : Nat} (h : o = some t) : (o.any fun t' => nb t' t) = true := by
  rw [h]; exact nb_refl t
theorem segChk_ok {a0 m : Nat} (h : segChk ops a0 m = true) : SegOk ops a0 m := by
  unfold segChk at h; simp only [Bool.and_eq_true, List.all_eq_true, List.mem_range'_1] at h; obtain ⟨⟨⟨h1, h2⟩, h3⟩, h4⟩ := h; refine ⟨fun i j t hi hi' hj hj' hdi hdj => ?_, fun i o hi hi' ho t ht j hj hj' hdj => ?_, fun hb j hj hj' => ?_, fun k hk hk' => ?_⟩
  · have := h1 i ⟨hi, hi'⟩ j ⟨hj, hj'⟩; rw [hdi] at this; simp only [Bool.or_eq_true] at this; rcases this with this | this
    · exact nb_eq this
    · rw [any_beq hdj] at this; cases this
  · have := h2 i ⟨hi, hi'⟩; rw [ho] at this; simp only [List.all_eq_true, List.mem_range'_1] at this; have := this t ht j ⟨hj, hj'⟩; rw [any_beq hdj] at this; simp only [Bool.not_true, Bool.false_or, Bool.and_eq_true] at this; exact ⟨nle_le this.1, this.2⟩
  · simp only [Bool.or_eq_true, List.all_eq_true, List.mem_range'_1] at h3; rcases h3 with h3 | h3
    · have := nle_le h3; omega
    · exact h3 j ⟨hj, hj'⟩
  · have := h4 k ⟨by omega, by omega⟩; simp only [List.any_eq_true, List.mem_range'_1] at this; obtain ⟨e, ⟨he1, he2⟩, he3⟩ := this; exact ⟨e, he1, by omega, he3⟩
def Lst (listed : Array Bool) (j : Nat) : Prop := listed.getD j false = true
structure LOk (ops : Array Oper) (listed : Array Bool) : Prop where
  size : listed.size = ops.size
  dc : ∀ k j, Lst listed k → edge ops k j = true → Lst listed j
theorem Lst.lt {listed : Array Bool} {j : Nat} (h : Lst listed j) : j < listed.size := by
  rcases Nat.lt_or_ge j listed.size with h' | h'
  · exact h'
  · unfold Lst at h; simp [Array.getD_eq_getD_getElem?, Array.getElem?_eq_none h'] at h
theorem lst_set {listed : Array Bool} {i j : Nat} (hi : i < listed.size) : Lst (listed.setIfInBounds i true) j ↔ j = i ∨ Lst listed j := by
  unfold Lst
  by_cases hij : i = j
  · subst hij; simp [hi]
  · rw [getD_set_ne false hij]; constructor
    · exact .inr
    · rintro (h | h)
      · exact absurd h.symm hij
      · exact h
theorem ready_of {listed : Array Bool} {i : Nat} (h : i ∈ Region.ready .any ops listed) : ¬ Lst listed i ∧ i < ops.size ∧ ∀ j, edge ops i j = true → Lst listed j := by
  obtain ⟨h0, o, ho, hall⟩ := mem_ready.1 h; refine ⟨fun hl => ?_, (Array.getElem?_eq_some_iff.1 ho).1, fun j hj => ?_⟩
  · have hlt := hl.lt; unfold Lst at hl; simp [hlt] at h0 hl; rw [h0] at hl; cases hl
  · unfold edge at hj; rw [ho] at hj; simp only [List.any_eq_true, Bool.and_eq_true] at hj; obtain ⟨e, he, hb, hon⟩ := hj; rw [← nb_eq hon]; exact hall e (by simpa using he) hb
theorem ready_to {listed : Array Bool} {i : Nat} (hs : listed.size = ops.size) (hi : i < ops.size) (hn : ¬ Lst listed i) (hall : ∀ j, edge ops i j = true → Lst listed j) : i ∈ Region.ready .any ops listed := by
  refine mem_ready.2 ⟨?_, ops[i], by simp [hi], fun e he hb => hall e.on ?_⟩
  · have : i < listed.size := by omega
    unfold Lst at hn; simp [this] at hn ⊢; exact hn
  · unfold edge; simp only [hi, Array.getElem?_eq_getElem]; simp only [List.any_eq_true, Bool.and_eq_true]; exact ⟨e, by simpa using he, hb, nb_refl _⟩
theorem back_of (h : backChk ops = true) {k j : Nat} (he : edge ops k j = true) : j < k := by
  unfold edge at he; split at he <;> try (cases he; done)
  rename_i o ho
  have hk := (Array.getElem?_eq_some_iff.1 ho).1; unfold backChk at h; simp only [List.all_eq_true, List.mem_range] at h; have := h k hk; rw [ho] at this; simp only [List.all_eq_true, Bool.or_eq_true] at this; simp only [List.any_eq_true, Bool.and_eq_true] at he; obtain ⟨e, hm, hb, hon⟩ := he; rcases this e hm with h1 | h1
  · rw [hb] at h1; cases h1
  · rw [← nb_eq hon]; exact nle_le h1
theorem reach_lst {listed : Array Bool} (hL : LOk ops listed) {j : Nat} : ∀ (f k : Nat), (∀ j, edge ops k j = true → Lst listed j) → reachB ops f k j = true → Lst listed j
  | 0, _, _, h => by cases h
  | f + 1, k, hp, h => by
    unfold reachB at h; simp only [Bool.or_eq_true, List.any_eq_true, Bool.and_eq_true] at h; rcases h with h | ⟨e, _, h1, h2⟩
    · exact hp j h
    · exact reach_lst hL f e (fun j' h' => hL.dc e j' (hp e h1) h') h2
theorem all_lst {listed : Array Bool} (hL : LOk ops listed) {a0 m : Nat} (ok : SegOk ops a0 m) : ∀ (k : Nat), a0 + m ≤ k → k < ops.size → (∀ j, edge ops k j = true → Lst listed j) → ∀ j, a0 ≤ j → j < a0 + m → Lst listed j := by
  intro k
  induction k using Nat.strongRecOn with
  | _ k ih =>
    intro hk hks hp j hj hj'; rcases Nat.eq_or_lt_of_le hk with rfl | hk
    · exact reach_lst hL _ _ hp (ok.bar hks j hj hj')
    · obtain ⟨e, h1, h2, h3⟩ := ok.late k hk hks; exact ih e h2 h1 (by omega) (fun j' h' => hL.dc e j' (hp e h3) h') j hj hj'
end
end Go.Den
end
