import Derived.Test.YtibfkkjkahpobaaGreatFt19
import Derived.Maps.AppendAt
set_option linter.unusedVariables false
set_option linter.unusedSimpArgs false
set_option maxHeartbeats 8000000
set_option maxRecDepth 100000
section
-- the texts that this claim needs, out of this session's and its print's (wip/shrink.py)
namespace Go.Den
open Go Go.RowKit
theorem add_add' (ad : Addr) (m n : Nat) : (ad.add m).add n = ad.add (m + n) := by
  unfold Addr.add
  by_cases hm : m = 0
  · subst hm; simp
  · by_cases hn : n = 0
    · subst hn; simp [hm]
    · simp [hm, hn, show m + n ≠ 0 by omega, Nat.add_assoc]
section
variable {P : Program} {U U1 : Nat → Prop} {ρ ρ1 : Nat → Value} {h h1 : List Blk} {w w1 : World}
def addOff : S → Nat → Option S
  | .one (.ptr id o), n => some (.one (.ptr id (o + n)))
  | .one (.at_ k x o), n => some (.one (.at_ k x (o + n)))
  | .one (.elt id i o), n => some (.one (.elt id i (o + n)))
  | _, _ => none
theorem addOff_ok {s s1 : S} {n : Nat} {v : Value} (hs : addOff s n = some s1) (hr : SR U ρ h w s v) (hv : ∃ ad, v = .pointer (some ad)) : ∃ ad, v = .pointer (some ad) ∧ SR U ρ h w s1 (.pointer (some (ad.add n))) := by
  unfold addOff at hs; split at hs
  · obtain rfl := Option.some.inj hs; obtain ⟨ad, rfl⟩ := hv; refine ⟨ad, rfl, rfl, hr.2.1, fun hb => ?_⟩; obtain ⟨g, e1, e2⟩ := hr.2.2 hb; injection e2 with e2
    injection e2 with e2
    subst e2; exact ⟨g, e1, by rw [Addr.add_lit]⟩
  · obtain rfl := Option.some.inj hs; obtain ⟨ad, cs, rfl, hk, hc⟩ := hr; refine ⟨ad, rfl, ad.add n, cs, rfl, hk, fun j u hu w' hw => ?_⟩; rw [add_add']; exact hc (n + j) u (by rwa [← Nat.add_assoc]) w' hw
  · obtain rfl := Option.some.inj hs; obtain ⟨ad, rfl⟩ := hv; refine ⟨ad, rfl, rfl, hr.2.1, fun k hk => ?_⟩; obtain ⟨g, m, c, e1, e2⟩ := hr.2.2 k hk; injection e2 with e2
    injection e2 with e2
    subst e2; exact ⟨g, m, c, e1, by rw [Addr.add_lit, Nat.add_assoc]⟩
  · cases hs
def isAddr (h : List Blk) : S → Bool
  | .one (.ptr id _) => isBox h id
  | .one (.at_ _ _ _) => true
  | .one (.elt id _ _) => (rowK h id).isSome
  | _ => false
theorem isAddr_ok {s : S} {v : Value} (ha : isAddr h s = true) (hr : SR U ρ h w s v) : ∃ ad, v = .pointer (some ad) := by
  unfold isAddr at ha; split at ha
  · obtain ⟨g, _, e⟩ := hr.2.2 ha; exact ⟨_, e⟩
  · obtain ⟨ad, cs, rfl, _⟩ := hr; exact ⟨ad, rfl⟩
  · obtain ⟨k, hk⟩ := Option.isSome_iff_exists.1 ha; obtain ⟨g, n, c, _, e⟩ := hr.2.2 k hk; exact ⟨_, e⟩
  · cases ha
def fieldR (tb : Tb) (t : Nat) (s : S) (f : Nat) (h : List Blk) : Option S :=
  match Tb.at tb t with
  | some i => match i.d with
    | .st fs => match fs[f]? with
      | some (off, ty) => match Tb.at tb ty with
        | some j => match nb j.sz 0, isAddr h s with
          | false, true => addOff s off
          | _, _ => none
        | none => none
      | none => none
    | _ => none
  | none => none
theorem field_at {fields : Array Field} {f off ty : Nat} (h : (fields.toList.map fun f => (f.offset, f.type))[f]? = some (off, ty)) : ∃ fd : Field, fields[f]? = some fd ∧ fd.offset = off ∧ fd.type = ty := by
  rw [List.getElem?_map, Array.getElem?_toList] at h
  cases hf : fields[f]? with
  | none => rw [hf] at h; cases h
  | some fd =>
    rw [hf] at h; have := Option.some.inj h; simp only [Prod.mk.injEq] at this; exact ⟨fd, rfl, this.1, this.2⟩
theorem fieldR_ok {tb : Tb} {t f : Nat} {s s1 : S} {v : Value} (ok : TbOk P tb) (hl : fieldR tb t s f h = some s1) (hr : HR U ρ h w) (hs : SR U ρ h w s v) : ValOk P U ρ h w (Instr.fieldAt t v f) s1 h := by
  unfold fieldR at hl; split at hl <;> try (cases hl; done)
  rename_i i hi
  split at hl <;> try (cases hl; done)
  rename_i fs hd
  split at hl <;> try (cases hl; done)
  rename_i off ty hf
  split at hl <;> try (cases hl; done)
  rename_i j hj
  split at hl <;> try (cases hl; done)
  rename_i hz ha
  obtain ⟨fields, hu, rfl⟩ := (ok.at hi).st hd; obtain ⟨fd, hfd, rfl, rfl⟩ := field_at hf; obtain ⟨ad, rfl, hs1⟩ := addOff_ok hl hs (isAddr_ok ha hs); have hz' : j.sz ≠ 0 := nb_ne hz; refine ValOk.pure hr ?_ hs1; simp [Instr.fieldAt, run_underlying hu, hfd, Instr.sureAddr, fieldPlace, (ok.at hj).sizeOf w, hz']
theorem KS.row_at {e : Nat} {k : K} {xs : List k.T} {v : Value} (hk : KS U w (.row e k) xs [v]) (hsz : 0 < k.sz) {i : Nat} (hi : i < xs.length) :
    ∃ ad c cs, v = .slice (some ad) xs.length c ∧ xs.length ≤ c ∧ KS U w k (xs.getD i k.zero) cs ∧ ∀ j u, cs[j]? = some u → ∀ w', Agree U w w' → w'.cell? (ad.add (i * k.sz + j)) = some u := by
  obtain ⟨A, c, e1, hc, _, _, hr⟩ := hk.now; obtain ⟨ad, rfl, hcell⟩ := hr (by omega); obtain rfl := (List.cons.inj e1).1; have hget : xs[i]? = some (xs.getD i k.zero) := by rw [List.getD_eq_getElem?_getD, List.getElem?_eq_getElem hi]; rfl
  obtain ⟨cs, hl, hkr, hcs⟩ := hcell i _ hget
  have at_ : ∀ w', Agree U w w' → ∃ cs', cs'.length = k.sz ∧ KR w' k (xs.getD i k.zero) cs' ∧ ∀ j u, cs'[j]? = some u → w'.cell? (ad.add (i * k.sz + j)) = some u := fun w' hw => by
    obtain ⟨A', c', e2, _, _, _, hr'⟩ := hk w' hw; obtain ⟨ad', rfl, hcell'⟩ := hr' (by omega); have e3 := (List.cons.inj e2).1; injection e3 with e3
    injection e3 with e3
    subst e3; exact hcell' i _ hget
  have hb : ad.add (i * k.sz + 0) = ad.add (i * k.sz + 0) := rfl; have hblock : ∀ m, (ad.add m).block = ad.block := fun m => by unfold Addr.add; split <;> rfl
  have h0 : w.cell? (ad.add (i * k.sz + 0)) = some (cs[0]'(by omega)) := hcs 0 _ (List.getElem?_eq_getElem (by omega)); have hlt : ad.block < w.heap.size := by have := World.block_lt_of_cell? w _ h0; rwa [hblock] at this
  have hnU : ¬ U ad.block := fun hU => by
    have ag : Agree U w { w with heap := w.heap.setIfInBounds ad.block (.cells #[] 0) } := ⟨rfl, rfl, rfl, by simp, fun b _ hn => by
      have : ad.block ≠ b := fun e => hn (e ▸ hU)
      simp [Array.getElem?_setIfInBounds_ne this]⟩
    obtain ⟨cs', hl', _, hcs'⟩ := at_ _ ag; have := hcs' 0 _ (List.getElem?_eq_getElem (by omega)); unfold World.cell? at this; rw [hblock] at this; simp [hlt] at this
  refine ⟨ad, c, cs, rfl, hc, fun w' hw => ?_, fun j u hu w' hw => ?_⟩
  · obtain ⟨cs', hl', hkr', hcs'⟩ := at_ w' hw
    have : cs' = cs := by
      apply List.ext_getElem?; intro j; rcases Nat.lt_or_ge j k.sz with hj | hj
      · have h1 := hcs' j _ (List.getElem?_eq_getElem (by omega)); have h2 := hcs j _ (List.getElem?_eq_getElem (by omega)); have h3 := hw.cell h2 (by rw [hblock]; exact hnU); rw [h1] at h3; rw [List.getElem?_eq_getElem (by omega), List.getElem?_eq_getElem (by omega)]; exact h3
      · rw [List.getElem?_eq_none (by omega), List.getElem?_eq_none (by omega)]
    rw [← this]; exact hkr'
  · exact hw.cell (hcs j u hu) (by rw [hblock]; exact hnU)
def indexR (tb : Tb) (t : Nat) (s : S) (n : Int) (h : List Blk) : Option (S × Prop) :=
  match Tb.at tb t with
  | some i => match i.d with
    | .slice e => match Tb.at tb e with
      | some j => match s with
        | .one (.row _ k xs) => match nb k.sz j.sz, nb k.sz 0 with
          | true, false => some (.one (.at_ k (xs.getD n.toNat k.zero) 0), 0 ≤ n ∧ n < (xs.length : Int))
          | _, _ => none
        | .one (.own id) => match h[id]? with
          | some (.row _ k xs) => match nb k.sz j.sz with
            | true => some (.one (.elt id n.toNat 0), 0 ≤ n ∧ n < (xs.length : Int))
            | false => none
          | some (.frz _ k xs) => match nb k.sz j.sz, nb k.sz 0 with
            | true, false => some (.one (.at_ k (xs.getD n.toNat k.zero) 0), 0 ≤ n ∧ n < (xs.length : Int))
            | _, _ => none
          | _ => none
        | _ => none
      | none => none
    | .arr m e => match Tb.at tb e, isAddr h s with
      | some j, true => (addOff s (n.toNat * j.sz)).map fun s1 => (s1, 0 ≤ n ∧ n < (m : Int))
      | _, _ => none
    | _ => none
  | none => none
theorem run_index {t e : Nat} {j : TI} {A : Addr} {len cap : Nat} {n : Int} (hu : P.underlying t = some (.slice e)) (hj : TOk P e j) (kk : IntKind) (h0 : 0 ≤ n) (h1 : n < (len : Int)) : (Instr.indexAt t (.slice (some A) len cap) (.int kk n)).run P w = .ok (.pointer (some (A.add (n.toNat * j.sz)))) w := by
  simp [Instr.indexAt, asIntOf, run_underlying hu, h0, h1, hj.sizeOf w]
theorem run_index_arr {t e m : Nat} {j : TI} {A : Addr} {n : Int} (hu : P.underlying t = some (.array m e)) (hj : TOk P e j) (kk : IntKind) (h0 : 0 ≤ n) (h1 : n < (m : Int)) : (Instr.indexAt t (.pointer (some A)) (.int kk n)).run P w = .ok (.pointer (some (A.add (n.toNat * j.sz)))) w := by
  simp [Instr.indexAt, asIntOf, run_underlying hu, h0, h1, hj.sizeOf w, Instr.sureAddr]
theorem at_row {e : Nat} {k : K} {xs : List k.T} {v : Value} {n : Int} {j : TI} {t te : Nat} (hu : P.underlying t = some (.slice te)) (hj : TOk P te j) (hk : KS U w (.row e k) xs [v]) (hsz : nb k.sz j.sz = true) (hz : nb k.sz 0 = false) (hp : 0 ≤ n ∧ n < (xs.length : Int)) (kk : IntKind) (hr : HR U ρ h w) : ValOk P U ρ h w (Instr.indexAt t v (.int kk n)) (.one (.at_ k (xs.getD n.toNat k.zero) 0)) h := by
  have hz' : 0 < k.sz := Nat.pos_of_ne_zero (nb_ne hz); have hs' := nb_eq hsz; obtain ⟨ad, c, cs, rfl, hc, hks, hcell⟩ := hk.row_at hz' (i := n.toNat) (by omega); refine ValOk.pure hr (run_index hu hj kk hp.1 hp.2) ⟨_, cs, rfl, hks, fun m u hm w' hw => ?_⟩; rw [add_add', ← hs']; exact hcell m u (by simpa using hm) w' hw
theorem indexR_ok {tb : Tb} {t : Nat} {s s1 : S} {p : Prop} {n : Int} {v : Value} (ok : TbOk P tb) (hl : indexR tb t s n h = some (s1, p)) (hp : p) (hr : HR U ρ h w) (hs : SR U ρ h w s v) (kk : IntKind) : ValOk P U ρ h w (Instr.indexAt t v (.int kk n)) s1 h := by
  unfold indexR at hl; split at hl <;> try (cases hl; done)
  rename_i i hi
  split at hl <;> try (cases hl; done)
  · rename_i e hd
    have hu := (ok.at hi).slice hd; split at hl <;> try (cases hl; done)
    rename_i j hj
    split at hl <;> try (cases hl; done)
    · rename_i e' k xs
      split at hl <;> try (cases hl; done)
      rename_i hsz hz
      obtain ⟨rfl, rfl⟩ := (Prod.mk.injEq ..).mp (Option.some.inj hl); exact at_row hu (ok.at hj) hs hsz hz hp kk hr
    · rename_i id
      split at hl <;> try (cases hl; done)
      · rename_i e' k xs hid
        split at hl <;> try (cases hl; done)
        rename_i hsz
        obtain ⟨rfl, rfl⟩ := (Prod.mk.injEq ..).mp (Option.some.inj hl); have hv := hs.2.2 k (rowK_row hid); subst hv; obtain ⟨cs, h1, h2⟩ := hr.blk id _ hid; rcases h1.2 with ⟨_, h0⟩ | ⟨g, cap, cur, e1, _⟩
        · omega
        · rw [e1]; refine ValOk.pure hr (run_index hu (ok.at hj) kk hp.1 hp.2) ⟨rfl, (List.getElem?_eq_some_iff.1 hid).1, fun k' hk' => ?_⟩; rw [rowK_row hid] at hk'; obtain rfl := Option.some.inj hk'; refine ⟨g, _, cap, e1, ?_⟩; rw [Addr.add_lit, nb_eq hsz]; simp
      · rename_i e' k xs hid
        split at hl <;> try (cases hl; done)
        rename_i hsz hz
        obtain ⟨rfl, rfl⟩ := (Prod.mk.injEq ..).mp (Option.some.inj hl); have hv := hs.2.2 k (by simp [rowK, hid]); subst hv; exact at_row hu (ok.at hj) (hr.blk id _ hid) hsz hz hp kk hr
  · rename_i m e hd
    have hu := (ok.at hi).arr hd; split at hl <;> try (cases hl; done)
    rename_i j hj ha
    cases hq : addOff s (n.toNat * j.sz) with
    | none => rw [hq] at hl; cases hl
    | some s2 =>
      rw [hq] at hl; obtain ⟨rfl, rfl⟩ := (Prod.mk.injEq ..).mp (Option.some.inj hl); obtain ⟨ad, rfl, h2⟩ := addOff_ok hq hs (isAddr_ok ha hs); exact ValOk.pure hr (run_index_arr hu (ok.at hj) kk hp.1 hp.2) h2
def byteAt (s : ByteArray) (n : Int) : Int := ((s[n.toNat]?).getD 0).toNat
def strIndexR (tb : Tb) (t : Nat) (x : S) (n : Int) : Option (S × Prop) :=
  match Tb.at tb t, x with
  | some i, .one (.str s) => match i.d with
    | .str => some (.one (.int .u8 (byteAt s n)), 0 ≤ n ∧ n < (s.size : Int))
    | _ => none
  | _, _ => none
theorem strIndexR_ok {tb : Tb} {t : Nat} {s s1 : S} {p : Prop} {n : Int} {v : Value} (ok : TbOk P tb) (hl : strIndexR tb t s n = some (s1, p)) (hp : p) (hr : HR U ρ h w) (hs : SR U ρ h w s v) (kk : IntKind) : ValOk P U ρ h w (Instr.index t v (.int kk n)) s1 h := by
  unfold strIndexR at hl; split at hl <;> try (cases hl; done)
  rename_i i s hi
  split at hl <;> try (cases hl; done)
  rename_i hd
  obtain ⟨rfl, rfl⟩ := (Prod.mk.injEq ..).mp (Option.some.inj hl); obtain rfl : v = .string s := hs; have hlt : n.toNat < s.size := by omega
  have hg : s[n.toNat]? = some s[n.toNat] := getElem?_pos s n.toNat hlt; refine ValOk.pure hr (v := .int .u8 (byteAt s n)) ?_ rfl; simp [Instr.index, asIntOf, run_underlying ((ok.at hi).str hd), hp.1, hg, byteAt]
end
end Go.Den
end
section
-- the texts that this claim needs, out of this session's and its print's (wip/shrink.py)
namespace Go.Den
open Go Go.RowKit
section
variable {P : Program} {U U1 : Nat → Prop} {ρ ρ1 : Nat → Value} {h h1 : List Blk} {w w1 : World}
def bnd (o : Option S) (d : Int) : Option Int := match o with
  | none => some d
  | some (.one (.int _ n)) => some n
  | _ => none
def sliceR (tb : Tb) (t : Nat) (x : S) (lo hi : Option S) (h : List Blk) : Option (S × List Blk × Prop) :=
  match Tb.at tb t, x with
  | some i, .one (.str s) => match i.d, bnd lo 0, bnd hi s.size with
    | .str, some l, some r => some (.one (.str (s.extract l.toNat r.toNat)), h, 0 ≤ l ∧ l ≤ r ∧ r ≤ (s.size : Int))
    | _, _, _ => none
  | some i, .one (.row e k xs) => match i.d, bnd lo 0, bnd hi (xs.length : Int) with
    | .slice te, some l, some r => match Tb.at tb te with
      | some j => match nb k.sz j.sz with
        | true => some (.one (.row e k ((xs.take r.toNat).drop l.toNat)), h, 0 ≤ l ∧ l ≤ r ∧ r ≤ (xs.length : Int))
        | false => none
      | none => none
    | _, _, _ => none
  | _, _ => none
def OptR (U : Nat → Prop) (ρ : Nat → Value) (h : List Blk) (w : World) : Option S → Option Value → Prop
  | none, none => True
  | some s, some v => SR U ρ h w s v
  | _, _ => False
theorem bnd_ok {lo : Option S} {vlo : Option Value} {d n : Int} (hb : bnd lo d = some n) (hs : OptR U ρ h w lo vlo) : (lo = none ∧ vlo = none ∧ n = d) ∨ ∃ kk, vlo = some (.int kk n) := by
  unfold bnd at hb; split at hb
  · obtain rfl := Option.some.inj hb
    cases vlo with
    | none => exact .inl ⟨rfl, rfl, rfl⟩
    | some v => exact hs.elim
  · obtain rfl := Option.some.inj hb
    cases vlo with
    | none => exact hs.elim
    | some v => exact .inr ⟨_, by rw [show v = _ from hs]⟩
  · cases hb
theorem run_bounds {len cap : Nat} {vlo vhi : Option Value} {l r : Int} (sl : Bool) (h1 : (vlo = none ∧ l = 0) ∨ ∃ kk, vlo = some (.int kk l)) (h2 : (vhi = none ∧ r = (len : Int)) ∨ ∃ kk, vhi = some (.int kk r)) (hp : 0 ≤ l ∧ l ≤ r ∧ r ≤ (len : Int)) (hc : len ≤ cap) :
    (Instr.sliceBounds sl len cap vlo vhi none).run P w = .ok (l.toNat, r.toNat, cap) w := by
  have hr0 : (0 : Int) ≤ r := by omega
  have hrc : r ≤ (cap : Int) := by omega
  have hm : max r 0 = r := by omega
  have hl : l ≤ (r.toNat : Int) := by omega
  have hl2 : (0 : Int) ≤ l := hp.1; rcases h1 with ⟨rfl, rfl⟩ | ⟨kk, rfl⟩ <;> rcases h2 with ⟨rfl, rfl⟩ | ⟨kk', rfl⟩
  · simp [Instr.sliceBounds]
  · simp [Instr.sliceBounds, Instr.sliceBound, asIntOf, hr0, hrc]
  · have : l ≤ (len : Int) := hp.2.1; simp [Instr.sliceBounds, Instr.sliceBound, asIntOf, hl2, this]
  · simp [Instr.sliceBounds, Instr.sliceBound, asIntOf, hr0, hrc, hl2, hl, hm, hp.2.1]
theorem sliceR_ok {tb : Tb} {t : Nat} {x s1 : S} {lo hi : Option S} {p : Prop} {v : Value} {vlo vhi : Option Value} (ok : TbOk P tb) (hl : sliceR tb t x lo hi h = some (s1, h1, p)) (hp : p) (hr : HR U ρ h w) (hx : SR U ρ h w x v)
    (hlo : OptR U ρ h w lo vlo) (hhi : OptR U ρ h w hi vhi) : ValOk P U ρ h w (Instr.sliceAt t v vlo vhi none) s1 h1 := by
  unfold sliceR at hl; split at hl <;> try (cases hl; done)
  · rename_i i s hi'
    split at hl <;> try (cases hl; done)
    rename_i l r hd hbl hbr
    obtain ⟨rfl, h2⟩ := (Prod.mk.injEq ..).mp (Option.some.inj hl); obtain ⟨rfl, rfl⟩ := (Prod.mk.injEq ..).mp h2; obtain rfl : v = .string s := hx; have hb := run_bounds (P := P) (w := w) (len := s.size) (cap := s.size) false ((bnd_ok hbl hlo).imp (fun h => ⟨h.2.1, h.2.2⟩) (fun h => h)) ((bnd_ok hbr hhi).imp (fun h => ⟨h.2.1, h.2.2⟩) (fun h => h)) hp (Nat.le_refl _); refine ValOk.pure hr (v := .string (s.extract l.toNat r.toNat)) ?_ rfl; simp [Instr.sliceAt, Instr.slice, run_underlying ((ok.at hi').str hd), hb]
  · rename_i i e k xs hi'
    split at hl <;> try (cases hl; done)
    rename_i te l r hd hbl hbr
    split at hl <;> try (cases hl; done)
    rename_i j hj
    split at hl <;> try (cases hl; done)
    rename_i hsz
    obtain ⟨rfl, h2⟩ := (Prod.mk.injEq ..).mp (Option.some.inj hl); obtain ⟨rfl, rfl⟩ := (Prod.mk.injEq ..).mp h2; have hk : KS U w (.row e k) xs [v] := hx; obtain ⟨A, c, e1, hc, _⟩ := hk.now; obtain rfl := (List.cons.inj e1).1; have hb := run_bounds (P := P) (w := w) (len := xs.length) (cap := c) true ((bnd_ok hbl hlo).imp (fun h => ⟨h.2.1, h.2.2⟩) (fun h => h)) ((bnd_ok hbr hhi).imp (fun h => ⟨h.2.1, h.2.2⟩) (fun h => h)) hp hc; have hsz' := nb_eq hsz; refine ValOk.pure hr (v := .slice (if c = l.toNat then A else A.map (·.add (l.toNat * j.sz))) (r.toNat - l.toNat) (c - l.toNat)) ?_ ?_
    · have hu := (ok.at hi').slice hd; simp [Instr.sliceAt, Instr.slice, run_underlying hu, hb, (ok.at hj).sizeOf w]
    · intro w' hw; obtain ⟨A', c', e2, hc', hn, hm, hr'⟩ := hk w' hw; have e3 := (List.cons.inj e2).1; injection e3 with e3 _ e4
      subst e3 e4; have hlen : ((xs.take r.toNat).drop l.toNat).length = r.toNat - l.toNat := by rw [List.length_drop, List.length_take]; omega
      refine ⟨_, _, by rw [hlen], by rw [hlen]; omega, rfl, by rw [hlen]; omega, fun hpos => ?_⟩; rw [hlen] at hpos; obtain ⟨ad, rfl, hcell⟩ := hr' (by omega); rw [if_neg (by omega)]; refine ⟨_, rfl, fun m q hq => ?_⟩; rw [List.getElem?_drop, List.getElem?_take] at hq; split at hq
      · obtain ⟨cs, g1, g2, g3⟩ := hcell _ q hq; refine ⟨cs, g1, g2, fun a u hu => ?_⟩; rw [add_add', ← hsz', ← g3 a u hu]; congr 2; rw [Nat.add_mul]; omega
      · cases hq
theorem Agree.of_grown {w w' : World} (hg : w.grownBy w' none) : Agree (fun _ => False) w w' := ⟨hg.os, hg.tape, hg.output, hg.size, fun b hb _ => hg.block b hb (by simp)⟩
theorem Go1.newRow {e : Nat} {k : K} {xs : List k.T} {v : Value} {cs : List Value} (hr : HR U ρ h w) (ag : Agree (fun _ => False) w w1) (ho : w1.ownsRow 0 e k.sz v xs.length cs) (hnew : ∀ g, v.ownBlock = some g → w.heap.size ≤ g) (hl : ∀ U1, Tr U w U1 w1 → Lie (KS U1 w1 k) k.sz xs cs) :
    Go1 U ρ h w (fun x => (U x ∧ x < w.heap.size) ∨ v.ownBlock = some x) (upd ρ h.length v) (h ++ [.row e k xs]) w1 :=
  Go1.push (g := v.ownBlock) hr ag (by rw [place_row (get_push h _), upd_at]) (fun x hx => ⟨hnew x hx, (ho.lt x hx).2⟩) (fun U1 tr _ => ⟨cs, by rw [upd_at]; exact ho, hl U1 tr⟩)
theorem CR.newRow {e : Nat} {k : K} {xs : List k.T} {v : Value} (hv : v.oneCell' = true) : CR U (upd ρ h.length v) (h ++ [.row e k xs]) w1 (.own h.length) v := ⟨hv, by simp, fun _ _ => (upd_at _ _ _).symm⟩
def rowB (by_ : Nat) (n : Nat) : Prop := n * by_ ≤ 140737488355328
def makeR (tb : Tb) (t : Nat) (l c : S) (h : List Blk) : Option (S × List Blk × Prop) :=
  match Tb.at tb t, l, c with
  | some i, .one (.int _ n), .one (.int _ m) => match i.d with
    | .slice e => match Tb.at tb e with
      | some j => match j.k with
        | some k => match nb k.sz 0, nb j.by_ 0 with
          | false, false => some (.one (.own h.length), h ++ [.row e k (List.replicate n.toNat k.zero)], 0 ≤ n ∧ m = n ∧ rowB j.by_ n.toNat)
          | _, _ => none
        | none => none
      | none => none
    | _ => none
  | _, _, _ => none
theorem lie_made {k : K} {z : Array Value} {n : Nat} (hz : KS U w k k.zero z.toList) (hs : z.size = k.sz) : Lie (KS U w k) k.sz (List.replicate n k.zero) (madeCells z (n * k.sz)).toList := by
  refine ⟨by simp [size_madeCells], fun j p hj => ?_⟩; rw [List.getElem?_replicate] at hj; split at hj
  · rename_i hjn
    obtain rfl := Option.some.inj hj
    have : ((madeCells z (n * k.sz)).toList.drop (j * k.sz)).take k.sz = z.toList := by
      apply List.ext_getElem?; intro q; rw [List.getElem?_take]; split
      · rename_i hq
        have h1 : j * k.sz + k.sz ≤ n * k.sz := by rw [← Nat.succ_mul]; exact Nat.mul_le_mul_right _ hjn
        have h2 : j * k.sz + q < n * k.sz := by omega
        have h3 : (j * k.sz + q) % k.sz = q := by rw [Nat.mul_comm, Nat.mul_add_mod, Nat.mod_eq_of_lt hq]
        rw [List.getElem?_drop, Array.getElem?_toList]; simp [madeCells, h2, hs, h3, hq]
      · rename_i hq
        rw [List.getElem?_eq_none]; simp; omega
    rw [this]; exact hz
  · cases hj
theorem makeR_ok {tb : Tb} {t : Nat} {l c s1 : S} {p : Prop} {vl vc : Value} (ok : TbOk P tb) (hm : makeR tb t l c h = some (s1, h1, p)) (hp : p) (hr : HR U ρ h w) (hl : SR U ρ h w l vl) (hc : SR U ρ h w c vc) : ValOk P U ρ h w (Instr.makeSlice t vl vc) s1 h1 := by
  unfold makeR at hm; split at hm <;> try (cases hm; done)
  rename_i i k1 n k2 m hi
  split at hm <;> try (cases hm; done)
  rename_i e hd
  split at hm <;> try (cases hm; done)
  rename_i j hj
  split at hm <;> try (cases hm; done)
  rename_i k hk
  split at hm <;> try (cases hm; done)
  rename_i hz hb
  obtain ⟨rfl, h2⟩ := (Prod.mk.injEq ..).mp (Option.some.inj hm); obtain ⟨rfl, rfl⟩ := (Prod.mk.injEq ..).mp h2; obtain rfl : vl = .int k1 n := hl; obtain rfl : vc = .int k2 m := hc; obtain ⟨h0, rfl, hrow⟩ := hp; have hz' : k.sz ≠ 0 := nb_ne hz; have hb' : j.by_ ≠ 0 := nb_ne hb; obtain ⟨q, z, hq, hqs, hqb, hqz, hzl⟩ := (ok.at hj).inf; have hks := ((ok.at hj).kind k hk).1; have hle : m.toNat ≤ m.toNat * j.by_ := Nat.le_mul_of_pos_right _ (Nat.pos_of_ne_zero hb'); have hrow' : m.toNat * j.by_ ≤ 140737488355328 := hrow
  have hby : (q.bytes : Int) * m ≤ 281474976710656 := by
    rw [hqb]; have h1 : ((j.by_ * m.toNat : Nat) : Int) ≤ 281474976710656 := by rw [Nat.mul_comm]; omega
    rwa [Int.natCast_mul, Int.toNat_of_nonneg h0] at h1
  have hrun := run_make (P := P) w t e q z ((ok.at hi).slice hd) hq hqz k1 k2 m m h0 (Int.le_refl _) hby (by omega)
  have hzs : z.cells.size = k.sz := by
    have := (KS.now ((ok.at hj).zero (U := U) (w := w) hk)).len; rw [← hzl] at this; simpa using this
  rw [hqs, ← hks] at hrun; have ho := World.ownsRow_lit (base := 0) (e := e) (size := k.sz) w (madeCells z.cells (m.toNat * k.sz)) m.toNat (Nat.zero_le _) (by simp only [maxLen]; omega) (size_madeCells _ _); have ag : Agree (fun _ => False) w (w.alloc (.cells (madeCells z.cells (m.toNat * k.sz)) e)) := Agree.of_grown (World.grownBy_alloc w _ none); refine ⟨_, _, _, _, hrun, Go1.newRow hr ag (v := .slice (some ⟨w.heap.size, 0, none⟩) m.toNat m.toNat) (by simpa using ho) (fun g hg => ?_) (fun U1 tr => ?_), CR.newRow rfl⟩
  · simp [Value.ownBlock] at hg; omega
  · exact lie_made (by rw [hzl]; exact (ok.at hj).zero hk) hzs
theorem KS.flat_row {e : Nat} {k : K} {ys : List k.T} {v : Value} (hk : KS U w (.row e k) ys [v]) (hsz : 0 < k.sz) :
    ∃ A c news, v = .slice A ys.length c ∧ (0 < ys.length → ∃ ad, A = some ad ∧ ∀ j u, news[j]? = some u → w.cell? (ad.add j) = some u) ∧ news.length = ys.length * k.sz ∧ Lie (KS U w k) k.sz ys news := by
  rcases Nat.eq_zero_or_pos ys.length with h0 | h0
  · obtain ⟨A, c, e1, _⟩ := hk.now; obtain rfl := (List.cons.inj e1).1; exact ⟨A, c, [], rfl, fun hp => by omega, by simp [h0], by simp [h0], fun j p hj => by rw [List.eq_nil_of_length_eq_zero h0] at hj; simp at hj⟩
  · obtain ⟨ad, c, _, rfl, _⟩ := hk.row_at hsz (i := 0) h0
    have each : ∀ i, i < ys.length → ∃ cs, KS U w k (ys.getD i k.zero) cs ∧ ∀ j u, cs[j]? = some u → w.cell? (ad.add (i * k.sz + j)) = some u := fun i hi => by
      obtain ⟨ad', c', cs, e1, _, h2, h3⟩ := hk.row_at hsz hi; injection e1 with e1
      injection e1 with e1
      subst e1; exact ⟨cs, h2, fun j u hu => h3 j u hu w (Agree.refl _ _)⟩
    refine ⟨_, c, (List.range (ys.length * k.sz)).map (fun p => (w.cell? (ad.add p)).getD undef), rfl, fun _ => ⟨ad, rfl, fun j u hu => ?_⟩, by simp, by simp, fun j p hj => ?_⟩
    · rw [List.getElem?_map] at hu
      have hj : j < ys.length * k.sz := by
        rcases Nat.lt_or_ge j (ys.length * k.sz) with h | h
        · exact h
        · rw [List.getElem?_eq_none (by simpa using h)] at hu; cases hu
      rw [List.getElem?_range hj] at hu; have hu : (w.cell? (ad.add j)).getD undef = u := Option.some.inj hu; have hdiv : j / k.sz < ys.length := (Nat.div_lt_iff_lt_mul hsz).2 hj; obtain ⟨cs, h2, h3⟩ := each _ hdiv; have hlen : cs.length = k.sz := h2.now.len; have hmod : j % k.sz < cs.length := by rw [hlen]; exact Nat.mod_lt _ hsz
      have := h3 (j % k.sz) _ (List.getElem?_eq_getElem hmod); rw [Nat.div_add_mod'] at this; rw [this] at hu ⊢; rw [← hu]; rfl
    · have hjl := (List.getElem?_eq_some_iff.1 hj).1; obtain ⟨cs, h2, h3⟩ := each j hjl; have hlen : cs.length = k.sz := h2.now.len; have hp : ys.getD j k.zero = p := by rw [List.getD_eq_getElem?_getD, hj]; rfl
      rw [hp] at h2
      have : (((List.range (ys.length * k.sz)).map (fun p => (w.cell? (ad.add p)).getD undef)).drop (j * k.sz)).take k.sz = cs := by
        apply List.ext_getElem?; intro q; rw [List.getElem?_take]; split
        · rename_i hq
          have h1 : j * k.sz + k.sz ≤ ys.length * k.sz := by rw [← Nat.succ_mul]; exact Nat.mul_le_mul_right _ hjl
          rw [List.getElem?_drop, List.getElem?_map, List.getElem?_range (by omega)]; have := h3 q _ (List.getElem?_eq_getElem (by omega)); simp [this, List.getElem?_eq_getElem (show q < cs.length by omega)]
        · rw [List.getElem?_eq_none (by omega)]
      rw [this]; exact h2
theorem Lie.append {α : Type} {R : α → List Value → Prop} {sz : Nat} {xs ys : List α} {cs ds : List Value} (h : Lie R sz xs cs) (h' : Lie R sz ys ds) : Lie R sz (xs ++ ys) (cs ++ ds) := by
  refine ⟨by rw [List.length_append, h.1, h'.1, List.length_append, Nat.add_mul], fun j p hj => ?_⟩; rcases Nat.lt_or_ge j xs.length with hl | hl
  · rw [List.getElem?_append_left hl] at hj; have h1 : j * sz + sz ≤ cs.length := by rw [h.1, ← Nat.succ_mul]; exact Nat.mul_le_mul_right _ hl
    rw [List.drop_append_of_le_length (by omega), List.take_append_of_le_length (by rw [List.length_drop]; omega)]; exact h.2 j p hj
  · rw [List.getElem?_append_right hl] at hj; have h1 : cs.length ≤ j * sz := by rw [h.1]; exact Nat.mul_le_mul_right _ hl
    rw [List.drop_append, List.drop_of_length_le h1, List.nil_append]; have : j * sz - cs.length = (j - xs.length) * sz := by rw [h.1, Nat.sub_mul]
    rw [this]; exact h'.2 _ p hj
end
end Go.Den
end
section
-- the texts that this claim needs, out of this session's and its print's (wip/shrink.py)
namespace Go.Den
open Go Go.RowKit
section
variable {P : Program} {U U1 : Nat → Prop} {ρ ρ1 : Nat → Value} {h h1 : List Blk} {w w1 : World}
theorem Go1.renew {id e e1 : Nat} {k k1 : K} {xs : List k.T} {zs : List k1.T} {v : Value} {cs : List Value} (hr : HR U ρ h w) (hid : h[id]? = some (.row e k xs)) (hg : w.grownBy w1 (ρ id).ownBlock) (hat : v.ownBlock = (ρ id).ownBlock ∨ v.ownBlock = some w.heap.size) (ho : w1.ownsRow 0 e1 k1.sz v zs.length cs)
    (hl : ∀ U1, Tr U w U1 w1 → Lie (KS U1 w1 k1) k1.sz zs cs) :
    Go1 U ρ h w (fun x => (U x ∧ x < w.heap.size) ∨ v.ownBlock = some x) (upd ρ h.length v) (h.set id .dead ++ [.row e1 k1 zs]) w1 := by
  have hlt : id < h.length := (List.getElem?_eq_some_iff.1 hid).1; have hpl : place ρ h id = (ρ id).ownBlock := place_row hid; have ag : Agree (fun x => place ρ h id = some x) w w1 := ⟨hg.os, hg.tape, hg.output, hg.size, fun b hb hn => hg.block b hb (fun e => hn (hpl.trans e.symm))⟩
  have less : ∀ x, x < w.heap.size → ((U x ∧ x < w.heap.size) ∨ v.ownBlock = some x) → U x := fun x hx hu => by
    rcases hu with hu | hu
    · exact hu.1
    · rcases hat with ha | ha
      · exact (hr.inU id x (by rw [hpl, ← ha]; exact hu)).1
      · rw [hu] at ha; injection ha with ha; omega
  have tr : Tr U w (fun x => (U x ∧ x < w.heap.size) ∨ v.ownBlock = some x) w1 := ⟨ag.mono (fun x _ hx => (hr.inU id x hx).1), less⟩
  have hget : ∀ i, i < h.length → i ≠ id → (h.set id .dead ++ [.row e1 k1 zs])[i]? = h[i]? := fun i hi hn => by
    rw [List.getElem?_append_left (by simpa using hi), get_set_ne (Ne.symm hn)]
  have hdead : (h.set id .dead ++ [.row e1 k1 zs])[id]? = some .dead := by rw [List.getElem?_append_left (by simpa using hlt), get_set hlt]
  have hnew : (h.set id .dead ++ [.row e1 k1 zs])[h.length]? = some (.row e1 k1 zs) := by
    rw [List.getElem?_append_right (by simp)]; simp
  have hplace : ∀ i, i < h.length → i ≠ id → place (upd ρ h.length v) (h.set id .dead ++ [.row e1 k1 zs]) i = place ρ h i := fun i hi hn => by
    unfold place; rw [hget i hi hn, upd_ne (Nat.ne_of_lt hi)]
  have hplaceD : place (upd ρ h.length v) (h.set id .dead ++ [.row e1 k1 zs]) id = none := by unfold place; rw [hdead]
  have hplaceN : place (upd ρ h.length v) (h.set id .dead ++ [.row e1 k1 zs]) h.length = v.ownBlock := by rw [place_row hnew, upd_at]
  have ex : Ext ρ h (upd ρ h.length v) (h.set id .dead ++ [.row e1 k1 zs]) := by
    refine ⟨by simp, fun i k' hi hk => ?_, fun i hi hk => ?_⟩
    · by_cases e : i = id
      · subst e; unfold rowK at hk; rw [hdead] at hk; cases hk
      · unfold rowK at hk; rw [hget i hi e] at hk; exact ⟨hk, upd_ne (Nat.ne_of_lt hi)⟩
    · by_cases e : i = id
      · subst e; unfold isBox at hk; rw [hdead] at hk; cases hk
      · unfold isBox at hk; rw [hget i hi e] at hk; exact ⟨hk, upd_ne (Nat.ne_of_lt hi)⟩
  have cases_ : ∀ i x, place (upd ρ h.length v) (h.set id .dead ++ [.row e1 k1 zs]) i = some x → (i < h.length ∧ i ≠ id ∧ place ρ h i = some x) ∨ (i = h.length ∧ v.ownBlock = some x) := fun i x hi => by
    have hl := place_lt hi; simp at hl; rcases Nat.lt_or_ge i h.length with h1 | h1
    · by_cases e : i = id
      · subst e; rw [hplaceD] at hi; cases hi
      · rw [hplace i h1 e] at hi; exact .inl ⟨h1, e, hi⟩
    · obtain rfl : i = h.length := by omega
      rw [hplaceN] at hi; exact .inr ⟨rfl, hi⟩
  have clash : ∀ i x, i ≠ id → place ρ h i = some x → v.ownBlock = some x → False := fun i x hn hi hv => by
    rcases hat with ha | ha
    · exact hn (hr.apart i id x hi (by rw [hpl, ← ha]; exact hv))
    · rw [hv] at ha; injection ha with ha
      have := (hr.inU i x hi).2; omega
  refine ⟨ag.mono (fun x _ hx => ⟨id, hx⟩), less, fun x hx hu => .inl (.inl ⟨hu, hx⟩), ⟨fun i b hi => ?_, fun i j x hi hj => ?_, fun i x hi => ?_⟩, ex, fun i x hi => ?_⟩
  · rcases Nat.lt_or_ge i h.length with h1 | h1
    · by_cases e : i = id
      · subst e; rw [hdead] at hi; obtain rfl := Option.some.inj hi; trivial
      · rw [hget i h1 e] at hi; exact (hr.blk i b hi).tr hi tr ex (fun _ _ e' => by subst e'; exact upd_ne (Nat.ne_of_lt h1)) (fun x hx => ag.block x (hr.inU i x hx).2 (fun hx' => e (hr.apart i id x hx hx')))
    · have hl2 := (List.getElem?_eq_some_iff.1 hi).1; simp at hl2; obtain rfl : i = h.length := by omega
      rw [hnew] at hi; obtain rfl := Option.some.inj hi; exact ⟨cs, by rw [upd_at]; exact ho, hl _ tr⟩
  · rcases cases_ i x hi with ⟨h1, h2, h3⟩ | ⟨h1, h2⟩ <;> rcases cases_ j x hj with ⟨g1, g2, g3⟩ | ⟨g1, g2⟩
    · exact hr.apart i j x h3 g3
    · exact (clash i x h2 h3 g2).elim
    · exact (clash j x g2 g3 h2).elim
    · rw [h1, g1]
  · rcases cases_ i x hi with ⟨h1, h2, h3⟩ | ⟨h1, h2⟩
    · have := hr.inU i x h3; exact ⟨.inl this, Nat.lt_of_lt_of_le this.2 hg.size⟩
    · exact ⟨.inr h2, (ho.lt x h2).2⟩
  · rcases cases_ i x hi with ⟨h1, h2, h3⟩ | ⟨h1, h2⟩
    · exact .inl ⟨i, h3⟩
    · rcases hat with ha | ha
      · exact .inl ⟨id, by rw [hpl, ← ha]; exact h2⟩
      · rw [h2] at ha; injection ha with ha; exact .inr (by omega)
def srcOf (h : List Blk) (k : K) : S → Option (List k.T)
  | .one (.row _ k' ys) => castRow k' k ys
  | .one (.own id) => match h[id]? with
    | some (.row _ k' ys) => castRow k' k ys
    | some (.frz _ k' ys) => castRow k' k ys
    | _ => none
  | .one .nil => some []
  | _ => none
theorem srcOf_ok {k : K} {s : S} {ys : List k.T} {v : Value} (hs : srcOf h k s = some ys) (hr : HR U ρ h w) (hv : SR U ρ h w s v) (hsz : 0 < k.sz) :
    ∃ A c news, v = .slice A ys.length c ∧ (0 < ys.length → ∃ ad, A = some ad ∧ ∀ j u, news[j]? = some u → w.cell? (ad.add j) = some u) ∧ news.length = ys.length * k.sz ∧ Lie (KS U w k) k.sz ys news := by
  unfold srcOf at hs; split at hs <;> try (cases hs; done)
  · obtain ⟨rfl, rfl⟩ := castRow_some hs; exact KS.flat_row hv hsz
  · split at hs <;> try (cases hs; done)
    · rename_i e' k' ys' hid
      obtain ⟨ek, hx⟩ := castRow_some hs; subst ek; obtain rfl : ys' = ys := hx; obtain rfl := hv.2.2 _ (rowK_row hid); obtain ⟨cs, h1, h2⟩ := hr.blk _ _ hid; rcases h1.2 with ⟨e1, h0⟩ | ⟨g, cap, cur, e1, _⟩
      · exact ⟨none, 0, cs, by rw [e1, h0], fun hp => by omega, h2.1, h2⟩
      · exact ⟨_, cap, cs, e1, fun _ => ⟨_, rfl, h1.cells (by rw [e1]; rfl)⟩, h2.1, h2⟩
    · rename_i e' k' ys' hid
      obtain ⟨ek, hx⟩ := castRow_some hs; subst ek; obtain rfl : ys' = ys := hx; obtain rfl := hv.2.2 k' (by simp only [rowK, hid]); exact KS.flat_row (hr.blk _ _ hid) hsz
  · obtain rfl := Option.some.inj hs; obtain rfl : v = .slice none 0 0 := hv; exact ⟨none, 0, [], rfl, fun hp => by simp at hp, by simp, by simp, fun j p hj => by simp at hj⟩
def appendR (tb : Tb) (t : Nat) (s x : S) (h : List Blk) : Option (S × List Blk × Prop) :=
  match Tb.at tb t with
  | some i => match i.d with
    | .slice e => match Tb.at tb e with
      | some j => match s with
        | .one (.own id) => match h[id]? with
          | some (.row e' k xs) => match nb e' e, nb k.sz 0, nb k.sz j.sz, nb j.by_ 0 with
            | true, false, true, false => match srcOf h k x with
              | some ys => some (.one (.own h.length), h.set id .dead ++ [.row e k (xs ++ ys)], rowB j.by_ (xs.length + ys.length))
              | none => none
            | _, _, _, _ => none
          | _ => none
        | .one .nil => match j.k with
          | some k => match nb k.sz 0, nb j.by_ 0 with
            | false, false => match srcOf h k x with
              | some ys => some (.one (.own h.length), h ++ [.row e k ys], rowB j.by_ ys.length)
              | none => none
            | _, _ => none
          | none => none
        | _ => none
      | none => none
    | _ => none
  | none => none
theorem run_append {t e : Nat} {j : TI} {k : K} {v vx : Value} {n m : Nat} {cs news : List Value} {A : Option Addr} {c : Nat} (hu : P.underlying t = some (.slice e)) (hj : TOk P e j) (hsz : 0 < k.sz) (hks : k.sz = j.sz) (hb : 0 < j.by_)
    (ho : w.ownsRow 0 e k.sz v n cs) (hvx : vx = .slice A m c) (hnews : 0 < m → ∃ ad, A = some ad ∧ ∀ j u, news[j]? = some u → w.cell? (ad.add j) = some u) (hl : news.length = m * k.sz) (h1 : ∀ u ∈ news, u.oneCell' = true) (hz : j.z.length = k.sz) (hrow : rowB j.by_ (n + m)) (ty : Nat) :
    ∃ v' w', (Builtin.append_ #[t, t] ty #[v, vx]).run P w = .ok v' w' ∧ w'.ownsRow 0 e k.sz v' (n + m) (cs ++ news) ∧ w.grownBy w' v.ownBlock ∧ (v'.ownBlock = v.ownBlock ∨ v'.ownBlock = some w.heap.size) := by
  obtain ⟨q, z, hq, hqs, hqb, hqz, hzl⟩ := hj.inf; subst hvx; have hrow' : (n + m) * j.by_ ≤ 140737488355328 := hrow; have hle : n + m ≤ (n + m) * j.by_ := Nat.le_mul_of_pos_right _ hb; rcases Nat.eq_zero_or_pos m with h0 | h0
  · subst h0; have hn : news = [] := List.eq_nil_of_length_eq_zero (by simpa using hl); subst hn; refine ⟨v, w, ?_, by simpa using ho, ⟨rfl, rfl, rfl, Nat.le_refl _, fun _ _ _ => rfl⟩, .inl rfl⟩; rcases ho.2 with ⟨rfl, rfl⟩ | ⟨g, cap, cur, rfl, _, _, hnc, _⟩
    · cases A <;> simp [Builtin.append_, run_underlying hu, sizeOf, typeInfo, hq, Builtin.lenOf, Builtin.firstCells, loadCells, loadCellsFrom]
    · cases A <;> simp [Builtin.append_, run_underlying hu, sizeOf, typeInfo, hq, Builtin.lenOf, Builtin.firstCells, loadCells, loadCellsFrom, hnc, storeCells]
  · obtain ⟨ad, rfl, hcell⟩ := hnews h0; obtain ⟨v', w', r1, r2, r3, _, r5⟩ := run_append_own_at (P := P) w 0 t ty e q z k.sz j.by_ hu hq hqz (by rw [hqs, hks]) hqb (by rw [← Array.length_toList, hzl]; exact hz) hsz v n cs ho ad m c news hl hcell h1 (by simp only [maxLen]; omega) hrow' (Nat.zero_le _); exact ⟨v', w', r1, r2, r3, r5⟩
theorem Lie.ones {k : K} {xs : List k.T} {cs : List Value} (hl : Lie (KS U w k) k.sz xs cs) (hsz : 0 < k.sz) : ∀ u ∈ cs, u.oneCell' = true := fun u hu => by
  obtain ⟨p, hp⟩ := List.getElem?_of_mem hu; have hlt : p < xs.length * k.sz := by rw [← hl.1]; exact (List.getElem?_eq_some_iff.1 hp).1
  have hd : p / k.sz < xs.length := (Nat.div_lt_iff_lt_mul hsz).2 hlt; have hk := (hl.2 (p / k.sz) _ (List.getElem?_eq_getElem hd)).now; refine KR.one hk u (List.mem_of_getElem? (i := p % k.sz) ?_); rw [List.getElem?_take, if_pos (Nat.mod_lt _ hsz), List.getElem?_drop, Nat.div_add_mod']; exact hp
theorem appendR_ok {tb : Tb} {t : Nat} {s x s1 : S} {p : Prop} {v vx : Value} (ok : TbOk P tb) (ha : appendR tb t s x h = some (s1, h1, p)) (hp : p) (hr : HR U ρ h w) (hs : SR U ρ h w s v) (hx : SR U ρ h w x vx) (ty : Nat) : ValOk P U ρ h w (Builtin.append_ #[t, t] ty #[v, vx]) s1 h1 := by
  unfold appendR at ha; split at ha <;> try (cases ha; done)
  rename_i i hi
  split at ha <;> try (cases ha; done)
  rename_i e hd
  split at ha <;> try (cases ha; done)
  rename_i j hj
  have hu := (ok.at hi).slice hd; split at ha <;> try (cases ha; done)
  · rename_i id
    split at ha <;> try (cases ha; done)
    rename_i e' k xs hid
    split at ha <;> try (cases ha; done)
    rename_i he hz hks hb
    split at ha <;> try (cases ha; done)
    rename_i ys hys
    obtain ⟨rfl, h2⟩ := (Prod.mk.injEq ..).mp (Option.some.inj ha); obtain ⟨rfl, rfl⟩ := (Prod.mk.injEq ..).mp h2; obtain rfl := nb_eq he; have hsz : 0 < k.sz := Nat.pos_of_ne_zero (nb_ne hz); have hks' := nb_eq hks; obtain rfl := hs.2.2 k (rowK_row hid); obtain ⟨cs, h1, h2⟩ := hr.blk _ _ hid; obtain ⟨A, c, news, hv, hcell, hl, hlie⟩ := srcOf_ok hys hr hx hsz
    have hzl : j.z.length = k.sz := by
      obtain ⟨q, z, hq, hqs, hqb, hqz, hzl⟩ := (ok.at hj).inf; exact (zlen (ok.at hj)).trans hks'.symm
    obtain ⟨v', w', r1, r2, r3, r4⟩ := run_append (P := P) hu (ok.at hj) hsz hks' (Nat.pos_of_ne_zero (nb_ne hb)) h1 hv hcell hl (hlie.ones hsz) hzl hp ty; refine ⟨v', w', _, _, r1, Go1.renew hr hid r3 r4 (by rw [List.length_append]; exact r2) (fun U1 tr => ?_), ?_⟩
    · exact (h2.imp fun _ _ hc => hc.tr tr).append (hlie.imp fun _ _ hc => hc.tr tr)
    · refine ⟨?_, by simp, fun _ _ => (upd_at _ _ _).symm⟩; rcases r2.2 with ⟨rfl, _⟩ | ⟨g, cap, cur, rfl, _⟩ <;> rfl
  · split at ha <;> try (cases ha; done)
    rename_i k hk
    split at ha <;> try (cases ha; done)
    rename_i hz hb
    split at ha <;> try (cases ha; done)
    rename_i ys hys
    obtain ⟨rfl, h2⟩ := (Prod.mk.injEq ..).mp (Option.some.inj ha); obtain ⟨rfl, rfl⟩ := (Prod.mk.injEq ..).mp h2; have hsz : 0 < k.sz := Nat.pos_of_ne_zero (nb_ne hz); have hks := ((ok.at hj).kind k hk).1; obtain rfl : v = .slice none 0 0 := hs; obtain ⟨A, c, news, hv, hcell, hl, hlie⟩ := srcOf_ok hys hr hx hsz; obtain ⟨v', w', r1, r2, r3, r4⟩ := run_append (P := P) (n := 0) (cs := []) hu (ok.at hj) hsz hks (Nat.pos_of_ne_zero (nb_ne hb)) (World.ownsRow_nil _ _ _ _) hv hcell hl (hlie.ones hsz) ((zlen (ok.at hj)).trans hks.symm) (by rw [Nat.zero_add]; exact hp) ty; rw [Nat.zero_add, List.nil_append] at r2; refine ⟨v', w', _, _, r1, Go1.newRow hr (Agree.of_grown r3) r2 (fun g hg => ?_) (fun U1 tr => hlie.imp fun _ _ hc => hc.tr tr), ?_⟩
    · rcases r4 with r4 | r4
      · rw [hg] at r4; cases r4
      · rw [hg] at r4; injection r4 with r4; omega
    · refine CR.newRow ?_; rcases r2.2 with ⟨rfl, _⟩ | ⟨g, cap, cur, rfl, _⟩ <;> rfl
end
end Go.Den
end
section
-- the texts that this claim needs, out of this session's and its print's (wip/shrink.py)
namespace Go.Den
open Go Go.RowKit
theorem sem_bind_pure {α : Type} : ∀ (s : Sem α), Sem.bind s Sem.pure = s
  | .pure a => rfl
  | .load m a k => by simp only [Sem.bind]; congr; funext v; exact sem_bind_pure _
  | .store m a v k => by simp only [Sem.bind]; rw [sem_bind_pure k]
  | .new o k => by simp only [Sem.bind]; congr; funext v; exact sem_bind_pure _
  | .shape r k => by simp only [Sem.bind]; congr; funext v; exact sem_bind_pure _
  | .freeze a n k => by simp only [Sem.bind]; rw [sem_bind_pure k]
  | .frozen a k => by simp only [Sem.bind]; congr; funext v; exact sem_bind_pure _
  | .getObj r k => by simp only [Sem.bind]; congr; funext v; exact sem_bind_pure _
  | .setObj r o k => by simp only [Sem.bind]; rw [sem_bind_pure k]
  | .choose q k => by simp only [Sem.bind]; congr; funext v; exact sem_bind_pure _
  | .sys c k => by simp only [Sem.bind]; congr; funext v; exact sem_bind_pure _
  | .program k => by simp only [Sem.bind]; congr; funext v; exact sem_bind_pure _
  | .mark m k => by simp only [Sem.bind]; rw [sem_bind_pure k]
  | .halt h => rfl
theorem sem_bind_assoc {α β γ : Type} (f : α → Sem β) (g : β → Sem γ) : ∀ (s : Sem α), Sem.bind (Sem.bind s f) g = Sem.bind s (fun a => Sem.bind (f a) g)
  | .pure a => rfl
  | .load m a k => by simp only [Sem.bind]; congr; funext v; exact sem_bind_assoc f g _
  | .store m a v k => by simp only [Sem.bind]; rw [sem_bind_assoc f g k]
  | .new o k => by simp only [Sem.bind]; congr; funext v; exact sem_bind_assoc f g _
  | .shape r k => by simp only [Sem.bind]; congr; funext v; exact sem_bind_assoc f g _
  | .freeze a n k => by simp only [Sem.bind]; rw [sem_bind_assoc f g k]
  | .frozen a k => by simp only [Sem.bind]; congr; funext v; exact sem_bind_assoc f g _
  | .getObj r k => by simp only [Sem.bind]; congr; funext v; exact sem_bind_assoc f g _
  | .setObj r o k => by simp only [Sem.bind]; rw [sem_bind_assoc f g k]
  | .choose q k => by simp only [Sem.bind]; congr; funext v; exact sem_bind_assoc f g _
  | .sys c k => by simp only [Sem.bind]; congr; funext v; exact sem_bind_assoc f g _
  | .program k => by simp only [Sem.bind]; congr; funext v; exact sem_bind_assoc f g _
  | .mark m k => by simp only [Sem.bind]; rw [sem_bind_assoc f g k]
  | .halt h => rfl
instance : LawfulMonad Sem := LawfulMonad.mk' Sem (fun x => sem_bind_pure x) (fun _ _ => rfl) (fun x f g => sem_bind_assoc f g x)
section
variable {P : Program} {U U1 : Nat → Prop} {ρ ρ1 : Nat → Value} {h h1 : List Blk} {w w1 : World}
theorem run_mapM {α β : Type} (f : α → Sem β) (g : α → β) : ∀ (l : List α) (acc : Array β), (∀ a ∈ l, (f a).run P w = .ok (g a) w) → (l.foldlM (fun bs a => bs.push <$> f a) acc).run P w = .ok (acc ++ (l.map g).toArray) w
  | [], acc, _ => by simp
  | a :: l, acc, h => by
    have h1 := h a (by simp); have ih := run_mapM f g l (acc.push (g a)) (fun b hb => h b (by simp [hb])); simp only [List.foldlM_cons, Sem.run_bind]
    have : (acc.push <$> f a).run P w = .ok (acc.push (g a)) w := by
      rw [map_eq_pure_bind]; simp only [Sem.run_bind, h1, Result.andThen_ok, Sem.run_pure]
    rw [this, Result.andThen_ok, ih]; simp
theorem run_arr_mapM {α β : Type} (f : α → Sem β) (g : α → β) (l : Array α) (h : ∀ a ∈ l.toList, (f a).run P w = .ok (g a) w) : (l.mapM f).run P w = .ok (l.toList.map g).toArray w := by
  rw [Array.mapM_eq_foldlM, ← Array.foldlM_toList, run_mapM f g l.toList #[] h]; simp
theorem lay_list (off : Nat) : ∀ (l : List Value) (j : Nat) (cells : Array Value), off + j + l.length ≤ cells.size → ((l.zipIdx j).foldl (fun cs p => cs.setIfInBounds (off + p.2) p.1) cells).toList = cells.toList.take (off + j) ++ l ++ cells.toList.drop (off + j + l.length)
  | [], j, cells, h => by simp
  | c :: l, j, cells, h => by
    simp only [List.length_cons] at h; rw [List.zipIdx_cons, List.foldl_cons, lay_list off l (j + 1) _ (by simp; omega)]; apply List.ext_getElem?; intro q; have e1 : off + (j + 1) = off + j + 1 := rfl; rw [e1, seg_get _ _ _ _ (by simp; omega), seg_get _ _ _ _ (by simp; omega)]; simp only [List.length_cons]
    by_cases h1 : q < off + j
    · rw [if_pos (by omega), if_pos h1, Array.toList_setIfInBounds, List.getElem?_set_ne (by omega)]
    · rw [if_neg h1]
      by_cases h2 : q = off + j
      · subst h2; rw [if_pos (by omega), if_pos (by omega), Array.toList_setIfInBounds, List.getElem?_set_self (by simp; omega)]; simp
      · rw [if_neg (by omega)]
        by_cases h3 : q < off + j + 1 + l.length
        · rw [if_pos (by omega), if_pos (by omega)]; have : q - (off + j) = (q - (off + j + 1)) + 1 := by omega
          rw [this, List.getElem?_cons_succ]
        · rw [if_neg (by omega), if_neg (by omega), Array.toList_setIfInBounds, List.getElem?_set_ne (by omega)]
theorem lay_arr (off : Nat) (v : Array Value) (cells : Array Value) (h : off + v.size ≤ cells.size) : (v.zipIdx.foldl (fun cs p => cs.setIfInBounds (off + p.2) p.1) cells).toList = cells.toList.take off ++ v.toList ++ cells.toList.drop (off + v.toList.length) := by
  have := lay_list off v.toList 0 cells (by simpa using h); rw [← Array.foldl_toList, Array.toList_zipIdx]; simpa using this
def fillR (pl : Nat → Option (Nat × Nat)) : List (Nat × S) → List C → Option (List C)
  | [], cs => some cs
  | (i, s) :: r, cs => match pl i, cellsOf s with
    | some (off, sz), some l => match nb l.length sz, nle (off + sz) cs.length with
      | true, true => fillR pl r (cs.take off ++ l ++ cs.drop (off + l.length))
      | _, _ => none
    | _, _ => none
theorem fillR_ok {pl : Nat → Option (Nat × Nat)} : ∀ (parts : List (Nat × S)) (vs : List (Nat × Value)) (cs : List C) (us : Array Value) {out : List C}, fillR pl parts cs = some out → All2 (CR U ρ h w) cs us.toList → All2 (fun (p : Nat × S) (q : Nat × Value) => p.1 = q.1 ∧ SR U ρ h w p.2 q.2) parts vs →
    ∃ ws, Instr.fill pl us vs = some ws ∧ All2 (CR U ρ h w) out ws.toList
  | [], vs, cs, us, out, hf, ha, hp => by
    rw [hp.left_nil]; obtain rfl := Option.some.inj hf
    exact ⟨us, rfl, ha⟩
  | (i, s) :: r, vs, cs, us, out, hf, ha, hp => by
    obtain ⟨⟨i', v⟩, vs', rfl, ⟨hi, hs⟩, ht⟩ := hp.left_cons; obtain rfl : i = i' := hi; unfold fillR at hf; split at hf <;> try (cases hf; done)
    rename_i off sz l hpl hc
    split at hf <;> try (cases hf; done)
    rename_i hl hb
    have hcl := cellsOf_ok hc hs; have hl' := nb_eq hl; have hb' := nle_le hb; have e1 : v.cells.size = sz := by rw [← hl', hcl.1]; simp
    have e2 : us.size = cs.length := by rw [ha.1]; simp
    have hlay := lay_arr off v.cells us (by omega)
    obtain ⟨ws, h1, h2⟩ := fillR_ok r vs' _ (v.cells.zipIdx.foldl (fun cs p => cs.setIfInBounds (off + p.2) p.1) us) hf (by
      rw [hlay, ← hcl.1]
      exact ((ha.take off).append hcl).append (ha.drop _)) ht
    refine ⟨ws, ?_, h2⟩; unfold Instr.fill; rw [hpl]; have : ¬ (v.cells.size ≠ sz ∨ us.size < off + v.cells.size) := by omega
    simp only []; rw [if_neg (by simp [e1]; omega)]; exact h1
def isNil : Value → Bool
  | .slice none 0 0 => true
  | _ => false
theorem isNil_eq {v : Value} (h : isNil v = true) : v = .slice none 0 0 := by
  unfold isNil at h; split at h
  · rfl
  · cases h
def thaw1 : C → Value → List Blk → C × List Blk
  | .row e k _, v, h => match isNil v with
    | true => (.own h.length, h ++ [.row e k []])
    | false => (vC v, h)
  | _, v, h => (vC v, h)
theorem thaw1_ok (c : C) (v : Value) (ho : v.oneCell' = true) (hr : HR U ρ h w) : ∃ U1 ρ1, Go1 U ρ h w U1 ρ1 (thaw1 c v h).2 w ∧ CR U1 ρ1 (thaw1 c v h).2 w (thaw1 c v h).1 v := by
  unfold thaw1; split
  · rename_i e k xs
    split
    · rename_i hn
      obtain rfl := isNil_eq hn; have g0 : Go1 U ρ h w _ (upd ρ h.length (.slice none 0 0)) (h ++ [.row e k []]) w := Go1.newRow (xs := ([] : List k.T)) (cs := []) hr (Agree.refl _ _) (World.ownsRow_nil _ _ _ _) (fun g hg => by cases hg) (fun U1 tr => ⟨by simp, fun j p hj => by simp at hj⟩); exact ⟨_, _, g0, CR.newRow rfl⟩
    · exact ⟨U, ρ, Go1.refl hr, CR.of_val ho⟩
  · exact ⟨U, ρ, Go1.refl hr, CR.of_val ho⟩
def thawZ : List C → List Value → List Blk → List C × List Blk
  | c :: r, v :: vs, h => ((thaw1 c v h).1 :: (thawZ r vs (thaw1 c v h).2).1, (thawZ r vs (thaw1 c v h).2).2)
  | _, _, h => ([], h)
theorem thawZ_ok : ∀ (cs : List C) (vs : List Value) {U : Nat → Prop} {ρ : Nat → Value} {h : List Blk}, cs.length = vs.length → (∀ v ∈ vs, v.oneCell' = true) → HR U ρ h w → ∃ U1 ρ1, Go1 U ρ h w U1 ρ1 (thawZ cs vs h).2 w ∧ All2 (CR U1 ρ1 (thawZ cs vs h).2 w) (thawZ cs vs h).1 vs
  | [], [], U, ρ, h, _, _, hr => ⟨U, ρ, Go1.refl hr, All2.nil⟩
  | c :: r, v :: vs, U, ρ, h, hl, h1, hr => by
    obtain ⟨U1, ρ1, g1, c1⟩ := thaw1_ok c v (h1 v (by simp)) hr; obtain ⟨U2, ρ2, g2, a2⟩ := thawZ_ok r vs (by simpa using hl) (fun x hx => h1 x (by simp [hx])) g1.hr
    exact ⟨U2, ρ2, g1.trans g2, All2.cons (CR.tr (g2.tr g1.hr) g2.ext c1) a2⟩
  | [], _ :: _, _, _, _, hl, _, _ => by simp at hl
  | _ :: _, [], _, _, _, hl, _, _ => by simp at hl
def allocR (tb : Tb) (t : Nat) (h : List Blk) : Option (S × List Blk) :=
  match Tb.at tb t with
  | some i => match i.k with
    | some k => match nb k.sz i.sz with
      | true => some (.one (.ptr (thawZ (k.flat k.zero) i.z h).2.length 0), (thawZ (k.flat k.zero) i.z h).2 ++ [.box t (thawZ (k.flat k.zero) i.z h).1])
      | false => none
    | none => some (.one (.ptr h.length 0), h ++ [.box t (i.z.map vC)])
  | none => none
theorem allocR_ok {tb : Tb} {t : Nat} {s1 : S} (ok : TbOk P tb) (ha : allocR tb t h = some (s1, h1)) (hr : HR U ρ h w) : ValOk P U ρ h w (Instr.alloc t true (.tuple #[])) s1 h1 := by
  unfold allocR at ha; split at ha <;> try (cases ha; done)
  rename_i i hi
  obtain ⟨q, z, hq, hqs, hqb, hqz, hzl⟩ := (ok.at hi).inf
  have hrun : ∀ (e : Sem Value), e = Instr.alloc t true (.tuple #[]) → e.run P w = (Instr.box t z).run P w := fun e he => by
    subst he; simp [Instr.alloc, Instr.box, zeroValue, typeInfo, hq, hqz]
  split at ha
  · rename_i k hk
    split at ha <;> try (cases ha; done)
    obtain ⟨rfl, rfl⟩ := (Prod.mk.injEq ..).mp (Option.some.inj ha); obtain ⟨U1, ρ1, g, a⟩ := thawZ_ok (w := w) (k.flat k.zero) i.z (by rw [K.flat_length, ((ok.at hi).kind k hk).1, (ok.at hi).zl]) (ok.at hi).ones hr; obtain ⟨v, w1, U2, ρ2, e1, g1, s1⟩ := box_ok (P := P) (t := t) (v := z) g.hr (by rw [hzl]; exact a); exact ⟨v, w1, U2, ρ2, (hrun _ rfl).trans e1, g.trans g1, s1⟩
  · obtain ⟨rfl, rfl⟩ := (Prod.mk.injEq ..).mp (Option.some.inj ha); obtain ⟨v, w1, U2, ρ2, e1, g1, s1⟩ := box_ok (P := P) (t := t) (v := z) hr (by rw [hzl]; exact All2.of_vals (ok.at hi).ones); exact ⟨v, w1, U2, ρ2, (hrun _ rfl).trans e1, g1, s1⟩
end
end Go.Den
end
section
-- the texts that this claim needs, out of this session's and its print's (wip/shrink.py)
namespace Go.Den
open Go Go.RowKit
section
variable {P : Program} {U U1 : Nat → Prop} {ρ ρ1 : Nat → Value} {h h1 : List Blk} {w w1 : World}
def baseOf (i : TI) : List C := match i.k with
  | some k => k.flat k.zero
  | none => i.z.map vC
theorem baseOf_ok {t : Nat} {i : TI} (ht : TOk P t i) : All2 (CR U ρ h w) (baseOf i) i.z := by
  unfold baseOf; split
  · rename_i k hk
    exact flat_CR (ht.zero hk)
  · exact All2.of_vals ht.ones
def plR (tb : Tb) : List (Nat × Nat) → Option (List (Nat × Nat))
  | [] => some []
  | (off, ty) :: r => match Tb.at tb ty, plR tb r with
    | some j, some l => some ((off, j.sz) :: l)
    | _, _ => none
theorem plR_ok {tb : Tb} (ok : TbOk P tb) : ∀ (fs : List (Nat × Nat)) {l : List (Nat × Nat)}, plR tb fs = some l → ∃ g : Nat → Nat, (∀ p ∈ fs, (sizeOf p.2).run P w = .ok (g p.2) w) ∧ l = fs.map fun p => (p.1, g p.2)
  | [], l, h => by
    obtain rfl := Option.some.inj h
    exact ⟨fun _ => 0, (fun p hp => by simp at hp), rfl⟩
  | (off, ty) :: r, l, h => by
    unfold plR at h; split at h <;> try (cases h; done)
    rename_i j l' hj hl
    obtain rfl := Option.some.inj h; obtain ⟨g, h1, rfl⟩ := plR_ok ok r hl; refine ⟨fun x => if x = ty then j.sz else g x, fun p hp => ?_, ?_⟩
    · by_cases e : p.2 = ty
      · simp only [e, if_true]; exact (ok.at hj).sizeOf w
      · simp only [e, if_false]; rcases List.mem_cons.1 hp with hp | hp
        · rw [hp] at e; exact absurd rfl e
        · exact h1 p hp
    · simp only [List.map_cons, if_true, List.cons.injEq, true_and]; apply List.map_congr_left; intro p hp
      by_cases e : p.2 = ty
      · have h2 := h1 p hp; rw [e, (ok.at hj).sizeOf w] at h2; injection h2 with h2
        simp [e, h2]
      · simp [e]
def buildR (tb : Tb) (t : Nat) (parts : List (Nat × S)) (h : List Blk) : Option (S × List Blk) :=
  match Tb.at tb t with
  | some i => match i.d with
    | .st fs => match plR tb fs with
      | some pl => match fillR (fun j => pl[j]?) parts (baseOf i) with
        | some cs => match snap cs h with
          | some q => some (.agg q.1, q.2)
          | none => none
        | none => none
      | none => none
    | .arr _ e => match Tb.at tb e with
      | some j => match fillR (fun x => some (x * j.sz, j.sz)) parts (baseOf i) with
        | some cs => match snap cs h with
          | some q => some (.agg q.1, q.2)
          | none => none
        | none => none
      | none => none
    | _ => none
  | none => none
def PartsR (U : Nat → Prop) (ρ : Nat → Value) (h : List Blk) (w : World) (parts : List (Nat × S)) (vs : List (Nat × Value)) : Prop := All2 (fun (p : Nat × S) (q : Nat × Value) => p.1 = q.1 ∧ SR U ρ h w p.2 q.2) parts vs
theorem snapped {cs : List C} {q : List C × List Blk} {ws : Array Value} {e : Sem Value} (hr : HR U ρ h w) (hq : snap cs h = some q) (ha : All2 (CR U ρ h w) cs ws.toList) (he : e.run P w = .ok (.agg ws) w) : ValOk P U ρ h w e (.agg q.1) q.2 := by
  obtain ⟨U1, g, a2⟩ := snap_ok _ hq hr ha; exact ⟨_, w, U1, ρ, he, g, ws, rfl, a2⟩
theorem buildR_ok {tb : Tb} {t : Nat} {parts : List (Nat × S)} {vs : Array (Nat × Value)} {s1 : S} (ok : TbOk P tb) (hb : buildR tb t parts h = some (s1, h1)) (hr : HR U ρ h w) (hp : PartsR U ρ h w parts vs.toList) : ValOk P U ρ h w (Instr.build t vs) s1 h1 := by
  unfold buildR at hb; split at hb <;> try (cases hb; done)
  rename_i i hi
  obtain ⟨q, z, hq, hqs, hqb, hqz, hzl⟩ := (ok.at hi).inf; have hbase : All2 (CR U ρ h w) (baseOf i) z.cells.toList := by rw [hzl]; exact baseOf_ok (ok.at hi)
  split at hb <;> try (cases hb; done)
  · rename_i fs hd
    split at hb <;> try (cases hb; done)
    rename_i pl hpl
    split at hb <;> try (cases hb; done)
    rename_i cs hcs
    split at hb <;> try (cases hb; done)
    rename_i q' hq'
    obtain ⟨rfl, rfl⟩ := (Prod.mk.injEq ..).mp (Option.some.inj hb); obtain ⟨fields, hu, rfl⟩ := (ok.at hi).st hd; obtain ⟨g, hg, rfl⟩ := plR_ok (w := w) ok _ hpl
    have hm := run_arr_mapM (P := P) (w := w) (fun f : Field => (do pure (f.offset, ← sizeOf f.type) : Sem (Nat × Nat))) (fun f => (f.offset, g f.type)) fields (fun f hf => by
      have := hg (f.offset, f.type) (List.mem_map.2 ⟨f, hf, rfl⟩)
      simp [this])
    obtain ⟨ws, hf, ha⟩ := fillR_ok parts vs.toList _ _ hcs hbase hp; refine snapped hr hq' ha ?_
    have hmap : (fun (j : Nat) => ((fields.toList.map fun f => (f.offset, f.type)).map fun p => (p.1, g p.2))[j]?) = fun (j : Nat) => ((fields.toList.map fun f => (f.offset, g f.type)).toArray)[j]? := by
      funext j; simp; rfl
    rw [hmap] at hf; simp only [Instr.build, Sem.run_bind, zeroValue, typeInfo, hq, hqz, run_underlying hu, Result.andThen_ok, Sem.run_pure, program, Sem.run, hm, hf]
  · rename_i n e hd
    split at hb <;> try (cases hb; done)
    rename_i j hj
    split at hb <;> try (cases hb; done)
    rename_i cs hcs
    split at hb <;> try (cases hb; done)
    rename_i q' hq'
    obtain ⟨rfl, rfl⟩ := (Prod.mk.injEq ..).mp (Option.some.inj hb); obtain ⟨ws, hf, ha⟩ := fillR_ok parts vs.toList _ _ hcs hbase hp; refine snapped hr hq' ha ?_; simp only [Instr.build, Sem.run_bind, zeroValue, typeInfo, hq, hqz, run_underlying ((ok.at hi).arr hd), Result.andThen_ok, Sem.run_pure, program, Sem.run, (ok.at hj).sizeOf w, hf]
def fitN (k : K) : Nat → List C → Option (List k.T)
  | 0, [] => some []
  | 0, _ :: _ => none
  | n + 1, l => match k.fit l with
    | some (x, r) => (fitN k n r).map (x :: ·)
    | none => none
theorem Lie.cons {α : Type} {R : α → List Value → Prop} {sz : Nat} {x : α} {xs : List α} {c cs : List Value} (hx : R x c) (hc : c.length = sz) (h : Lie R sz xs cs) : Lie R sz (x :: xs) (c ++ cs) :=
  Lie.append (xs := [x]) ⟨by simp [hc], fun j p hj => by
    cases j with
    | zero =>
      have hj : x = p := Option.some.inj hj; subst hj
      simpa [← hc] using hx
    | succ j => simp at hj⟩ h
theorem fitN_ok {k : K} : ∀ (n : Nat) {l : List C} {xs : List k.T} {vs : List Value}, fitN k n l = some xs → All2 (CR U ρ h w) l vs → xs.length = n ∧ Lie (KS U w k) k.sz xs vs
  | 0, [], xs, vs, hf, ha => by
    obtain rfl := Option.some.inj hf; rw [ha.left_nil]
    exact ⟨rfl, by simp, fun j p hj => by simp at hj⟩
  | 0, _ :: _, xs, vs, hf, ha => by cases hf
  | n + 1, l, xs, vs, hf, ha => by
    unfold fitN at hf; split at hf <;> try (cases hf; done)
    rename_i x r hx
    cases hr : fitN k n r with
    | none => rw [hr] at hf; cases hf
    | some ys =>
      rw [hr] at hf; obtain rfl := Option.some.inj hf; obtain ⟨h1, h2⟩ := fit_KS k hx ha; obtain ⟨h3, h4⟩ := fitN_ok n hr h2; refine ⟨by simp [h3], ?_⟩; have := Lie.cons h1 h1.now.len h4
      rwa [List.take_append_drop] at this
theorem lie_all2 {k : K} : ∀ {xs : List k.T} {cs : List Value}, Lie (KS U w k) k.sz xs cs → All2 (CR U ρ h w) (xs.flatMap k.flat) cs
  | [], cs, hl => by
    have : cs = [] := List.eq_nil_of_length_eq_zero (by simpa using hl.1); subst this
    exact All2.nil
  | x :: xs, cs, hl => by
    have h0 := hl.2 0 x rfl; have hlen : cs.length = xs.length * k.sz + k.sz := by rw [hl.1, List.length_cons, Nat.add_mul, Nat.one_mul]
    rw [Nat.zero_mul, List.drop_zero] at h0
    have h1 : Lie (KS U w k) k.sz xs (cs.drop k.sz) := ⟨by rw [List.length_drop, hlen]; omega, fun j p hj => by
      have := hl.2 (j + 1) p (by simpa using hj); rw [List.drop_drop]
      rwa [Nat.add_mul, Nat.one_mul, Nat.add_comm] at this⟩
    rw [List.flatMap_cons]; have := (flat_CR h0).append (lie_all2 h1)
    rwa [List.take_append_drop] at this
theorem Go1.alloc (hr : HR U ρ h w) (ag : Agree (fun _ => False) w w1) : Go1 U ρ h w (fun x => U x ∧ x < w.heap.size) ρ h w1 := by
  have tr : Tr U w (fun x => U x ∧ x < w.heap.size) w1 := ⟨ag.mono (fun _ _ h => h.elim), fun _ _ h => h.1⟩
  refine ⟨ag.mono (fun _ _ h => h.elim), fun _ _ h => h.1, fun b hb hu => .inl ⟨hu, hb⟩, ⟨fun id b hid => ?_, hr.apart, fun i g hi => ?_⟩, Ext.refl _ _, fun i g hg => .inl ⟨i, hg⟩⟩
  · exact (hr.blk id b hid).tr hid tr (Ext.refl _ _) (fun _ _ _ => rfl) (fun g hg => ag.block g (hr.inU id g hg).2 (fun h => h))
  · have := hr.inU i g hi; exact ⟨this, Nat.lt_of_lt_of_le this.2 ag.size⟩
def buildSliceR (tb : Tb) (ow : Bool) (t n : Nat) (parts : List (Nat × S)) (h : List Blk) : Option (S × List Blk) :=
  match Tb.at tb t with
  | some i => match i.d with
    | .slice e => match Tb.at tb e with
      | some j => match j.k with
        | some k => match nb k.sz 0, nle (n * j.sz) 16777216 with
          | false, true => match fillR (fun x => some (x * j.sz, j.sz)) parts ((List.replicate n k.zero).flatMap k.flat) with
            | some cs => match snap cs h with
              | some (cs1, h1) => match fitN k n cs1 with
                | some xs => match ow with
                  | true => some (.one (.own h1.length), h1 ++ [.row e k xs])
                  | false => some (.one (.row e k xs), h1)
                | none => none
              | none => none
            | none => none
          | _, _ => none
        | none => none
      | none => none
    | _ => none
  | none => none
theorem buildSliceR_ok {tb : Tb} {ow : Bool} {t n : Nat} {parts : List (Nat × S)} {vs : Array (Nat × Value)} {s1 : S} (ok : TbOk P tb) (hb : buildSliceR tb ow t n parts h = some (s1, h1)) (hr : HR U ρ h w) (hp : PartsR U ρ h w parts vs.toList) : ValOk P U ρ h w (Instr.buildSlice t n vs) s1 h1 := by
  unfold buildSliceR at hb; split at hb <;> try (cases hb; done)
  rename_i i hi
  split at hb <;> try (cases hb; done)
  rename_i e hd
  split at hb <;> try (cases hb; done)
  rename_i j hj
  split at hb <;> try (cases hb; done)
  rename_i k hk
  split at hb <;> try (cases hb; done)
  rename_i hz hn
  split at hb <;> try (cases hb; done)
  rename_i cs hcs
  split at hb <;> try (cases hb; done)
  rename_i cs1 h2 hsn
  split at hb <;> try (cases hb; done)
  rename_i xs hxs
  obtain ⟨q, z, hq, hqs, hqb, hqz, hzl⟩ := (ok.at hj).inf; have hks := ((ok.at hj).kind k hk).1; have hz' : 0 < k.sz := Nat.pos_of_ne_zero (nb_ne hz)
  have hzs : z.cells.size = k.sz := by
    have := (KS.now ((ok.at hj).zero (U := U) (w := w) hk)).len; rw [← hzl] at this; simpa using this
  have hlm : Lie (KS U w k) k.sz (List.replicate n k.zero) (madeCells z.cells (n * k.sz)).toList := lie_made (by rw [hzl]; exact (ok.at hj).zero hk) hzs; obtain ⟨ws, hf, ha⟩ := fillR_ok parts vs.toList _ (madeCells z.cells (n * k.sz)) hcs (lie_all2 hlm) hp; obtain ⟨U2, g2, a2⟩ := snap_ok _ hsn hr ha; obtain ⟨hxl, hlie⟩ := fitN_ok n hxs a2
  have hrun : (Instr.buildSlice t n vs).run P w = .ok (.slice (some ⟨w.heap.size, 0, none⟩) n n) (w.alloc (.cells ws e)) := by
    have hu := (ok.at hi).slice hd; have hn' : ¬ (n * j.sz > 2 ^ 24) := by have := nle_le hn; omega
    rw [← hks] at hn'; have hsz := (ok.at hj).sizeOf w; rw [← hks] at hsz hf
    by_cases h0 : n * k.sz = 0
    · have hn0 : n = 0 := by
        rcases Nat.mul_eq_zero.1 h0 with h | h
        · exact h
        · omega
      subst hn0; have hm : (madeCells z.cells (0 * k.sz)) = #[] := by simp [madeCells, Array.range_zero']
      rw [hm] at hf; simp [Instr.buildSlice, run_underlying hu, hsz, hf, newRow, Array.range_zero']
    · have hm : (Array.range (n * k.sz)).map (fun x => z.cells[x % z.cells.size]!) = madeCells z.cells (n * k.sz) := rfl; simp [Instr.buildSlice, run_underlying hu, hsz, hn', h0, zeroValue, typeInfo, hq, hqz, hm, hf, newRow]
  have hwl : ws.size = xs.length * k.sz := by rw [← hlie.1]; simp
  have hnl : n ≤ n * k.sz := Nat.le_mul_of_pos_right _ hz'; have hnb : n * j.sz ≤ 16777216 := nle_le hn; have ho := World.ownsRow_lit (base := 0) (e := e) (size := k.sz) w ws n (Nat.zero_le _) (by rw [← hks] at hnb; simp only [maxLen]; omega) (by rw [hwl, hxl]); have ag : Agree (fun _ => False) w (w.alloc (.cells ws e)) := Agree.of_grown (World.grownBy_alloc w _ none); have tr0 : Tr U2 w (fun x => U2 x ∧ x < w.heap.size) (w.alloc (.cells ws e)) := ⟨ag.mono (fun _ _ h => h.elim), fun _ _ h => h.1⟩
  split at hb
  · obtain ⟨rfl, rfl⟩ := (Prod.mk.injEq ..).mp (Option.some.inj hb); refine ⟨_, _, _, _, hrun, g2.trans (Go1.newRow g2.hr ag (v := .slice (some ⟨w.heap.size, 0, none⟩) n n) (by rw [hxl]; exact ho) (fun g hg => ?_) (fun U1 tr => hlie.imp fun _ _ hc => hc.tr tr)), CR.newRow rfl⟩; simp [Value.ownBlock] at hg; omega
  · obtain ⟨rfl, rfl⟩ := (Prod.mk.injEq ..).mp (Option.some.inj hb); refine ⟨_, _, _, _, hrun, g2.trans (Go1.alloc g2.hr ag), ?_⟩; refine KS.of_owns (U := fun x => U2 x ∧ x < w.heap.size) (by rw [hxl]; exact ho) (hlie.imp fun _ _ hc => hc.tr tr0) (fun _ _ h => h) (fun g hg hu => ?_); simp [Value.ownBlock] at hg; have := hu.2; omega
end
end Go.Den
end
