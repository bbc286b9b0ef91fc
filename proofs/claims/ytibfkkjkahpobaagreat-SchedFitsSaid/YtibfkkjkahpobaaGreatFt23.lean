import Derived.Test.YtibfkkjkahpobaaGreatFt22
import Derived.Test.YtibfkkjkahpobaaGreatFt1
import Derived.Test.YtibfkkjkahpobaaGreatFt15
import Derived.IntWalk
set_option linter.unusedVariables false
set_option linter.unusedSimpArgs false
set_option maxHeartbeats 8000000
set_option maxRecDepth 100000
section
-- the texts that this claim needs, out of this session's and its print's (wip/shrink.py)
namespace Go.Den
open Go Go.RowKit
section
variable {P : Program} {cx : Cx} {U U1 : Nat → Prop} {ρ ρ1 : Nat → Value} {σ : St} {h h1 : List Blk} {a : Act} {w w1 : World} {ops : Array Oper} {tb : Tb} {vals : Nat → S} {σs : Nat → St} {a0 m : Nat} {l : List Oper} {Q : Exit → Act → World → Prop}
def cnt (listed : Array Bool) : Nat → Nat → Nat
  | _, 0 => 0
  | lo, n + 1 => (if listed.getD lo false = true then 0 else 1) + cnt listed (lo + 1) n
theorem cnt_zero {listed : Array Bool} : ∀ (n lo : Nat), cnt listed lo n = 0 → ∀ j, lo ≤ j → j < lo + n → Lst listed j
  | 0, lo, _, j, h1, h2 => by omega
  | n + 1, lo, h, j, h1, h2 => by
    unfold cnt at h; rcases Nat.eq_or_lt_of_le h1 with rfl | h1
    · unfold Lst; split at h
      · assumption
      · omega
    · exact cnt_zero n (lo + 1) (by omega) j h1 (by omega)
theorem cnt_out {listed : Array Bool} {i : Nat} : ∀ (n lo : Nat), (i < lo ∨ lo + n ≤ i) → cnt (listed.setIfInBounds i true) lo n = cnt listed lo n
  | 0, lo, _ => rfl
  | n + 1, lo, h => by
    unfold cnt; rw [cnt_out n (lo + 1) (by omega), getD_set_ne false (by omega)]
theorem cnt_set {listed : Array Bool} {i : Nat} (hi : i < listed.size) (hn : ¬ Lst listed i) : ∀ (n lo : Nat), lo ≤ i → i < lo + n → cnt listed lo n = cnt (listed.setIfInBounds i true) lo n + 1
  | 0, lo, h1, h2 => by omega
  | n + 1, lo, h1, h2 => by
    unfold cnt; rcases Nat.eq_or_lt_of_le h1 with rfl | h1
    · rw [cnt_out n (lo + 1) (by omega), if_neg (show ¬ listed.getD lo false = true from hn), if_pos (show (listed.setIfInBounds lo true).getD lo false = true from (lst_set hi).2 (.inl rfl))]; omega
    · rw [cnt_set hi hn n (lo + 1) h1 (by omega), getD_set_ne false (by omega)]; omega
theorem dst_of {k : Nat} {o : Oper} (hl : ops[k]? = some o) : dstOf ops k = o.dst := by unfold dstOf; rw [hl]
theorem vals_get (hv : Vals P tb ops a0 l σ vals σs) (ok : SegOk ops a0 m) (hlen : l.length = m) (hl : ∀ k, k < m → l[k]? = ops[a0 + k]?) : ∀ k, k ≤ m →
    (σs (a0 + k)).heap = σ.heap ∧ (σs (a0 + k)).n = σ.n ∧ (∀ j t, a0 ≤ j → j < a0 + k → dstOf ops j = some t → (σs (a0 + k)).get t = vals j) ∧ (∀ t, (∀ j, a0 ≤ j → j < a0 + k → dstOf ops j ≠ some t) → (σs (a0 + k)).get t = σ.get t)
  | 0, _ => by
    rw [Nat.add_zero, hv.zero]
    exact ⟨rfl, rfl, fun j t h1 h2 => by omega, fun t _ => rfl⟩
  | k + 1, hk => by
    obtain ⟨i1, i2, i3, i4⟩ := vals_get hv ok hlen hl k (by omega); have hlk : k < l.length := by omega
    have ho : l[k]? = some l[k] := List.getElem?_eq_getElem hlk; have hn := hv.next k _ ho; have hd : dstOf ops (a0 + k) = l[k].dst := dst_of (by rw [← hl k (by omega)]; exact ho); rw [← Nat.add_assoc, hn]; refine ⟨rfl, rfl, fun j t h1 h2 hj => ?_, fun t ht => ?_⟩
    · show look (putE _ _ _) t = _; rw [look_putE]; split
      · rename_i hdt
        rw [ok.uniq j (a0 + k) t h1 (by omega) (by omega) (by omega) hj (by rw [hd]; exact hdt)]
      · rename_i hdt
        have : j ≠ a0 + k := fun e => hdt (by rw [← hd, ← e]; exact hj); exact i3 j t h1 (by omega) hj
    · show look (putE _ _ _) t = _; rw [look_putE, if_neg (by rw [← hd]; exact ht (a0 + k) (by omega) (by omega))]; exact i4 t fun j h1 h2 => ht j h1 (by omega)
structure AnyAt (cx : Cx) (ops : Array Oper) (σ : St) (vals : Nat → S) (a0 m : Nat) (listed : Array Bool) (σ' : St) : Prop where
  heap : σ'.heap = σ.heap
  n : σ'.n = σ.n
  in_ : ∀ j t, a0 ≤ j → j < a0 + m → dstOf ops j = some t → Lst listed j → σ'.get t = vals j
  out : ∀ t, (∀ j, a0 ≤ j → j < a0 + m → dstOf ops j = some t → ¬ Lst listed j) → σ'.get t = σ.get t
theorem AnyAt.reads {listed : Array Bool} {σ' : St} {i : Nat} {o : Oper} (hA : AnyAt cx ops σ vals a0 m listed σ') (hv : Vals P tb ops a0 l σ vals σs) (ok : SegOk ops a0 m) (hlen : l.length = m) (hl : ∀ k, k < m → l[k]? = ops[a0 + k]?)
    (h1 : a0 ≤ i) (h2 : i < a0 + m) (ho : ops[i]? = some o) (hp : ∀ j, edge ops i j = true → Lst listed j) : σ'.only (readsOf ops o) = (σs i).only (readsOf ops o) := by
  obtain ⟨i1, i2, i3, i4⟩ := vals_get hv ok hlen hl (i - a0) (by omega); rw [show a0 + (i - a0) = i by omega] at i1 i2 i3 i4; refine only_congr (hA.heap.trans i1.symm) (hA.n.trans i2.symm) fun t ht => ?_
  by_cases hx : ∃ j, a0 ≤ j ∧ j < a0 + m ∧ dstOf ops j = some t
  · obtain ⟨j, hj1, hj2, hj3⟩ := hx; obtain ⟨hlt, he⟩ := ok.reads i o h1 h2 ho t ht j hj1 hj2 hj3; rw [hA.in_ j t hj1 hj2 hj3 (hp j he), i3 j t hj1 hlt hj3]
  · have hx' : ∀ j, a0 ≤ j → j < a0 + m → dstOf ops j ≠ some t := fun j h1 h2 h3 => hx ⟨j, h1, h2, h3⟩; rw [hA.out t fun j h1 h2 h3 => absurd h3 (hx' j h1 h2), i4 t fun j h1 h2 => hx' j h1 (by omega)]
theorem seg_any (tok : TbOk P tb) (hb : backChk ops = true) (ok : SegOk ops a0 m) (hv : Vals P tb ops a0 l σ vals σs) (hlen : l.length = m) (hl : ∀ k, k < m → l[k]? = ops[a0 + k]?) (hm : a0 + m ≤ ops.size)
    (fin : ∀ listed a w, LOk ops listed → (∀ j, j < a0 + m → Lst listed j) → (∀ j, a0 + m ≤ j → ¬ Lst listed j) → R cx (σs (a0 + m)) a w → wpAny P .any ops Q (ops.size - (a0 + m)) listed a w) :
    ∀ u listed a w, cnt listed a0 m = u → LOk ops listed → (∀ j, j < a0 → Lst listed j) → (∀ j, a0 + m ≤ j → ¬ Lst listed j) → (∃ σ', AnyAt cx ops σ vals a0 m listed σ' ∧ R cx σ' a w) → wpAny P .any ops Q (u + (ops.size - (a0 + m))) listed a w := by
  intro u
  induction u with
  | zero =>
    rintro listed a w hc hL h0 hn ⟨σ', hA, r⟩; rw [Nat.zero_add]; have hall := cnt_zero m a0 hc; refine fin listed a w hL (fun j hj => ?_) hn ?_
    · rcases Nat.lt_or_ge j a0 with h | h
      · exact h0 j h
      · exact hall j h hj
    · obtain ⟨i1, i2, i3, i4⟩ := vals_get hv ok hlen hl m (Nat.le_refl _); refine r.of_get (hA.heap.trans i1.symm) (hA.n.trans i2.symm) fun t => .inl ?_
      by_cases hx : ∃ j, a0 ≤ j ∧ j < a0 + m ∧ dstOf ops j = some t
      · obtain ⟨j, hj1, hj2, hj3⟩ := hx; rw [hA.in_ j t hj1 hj2 hj3 (hall j hj1 hj2), i3 j t hj1 hj2 hj3]
      · have hx' : ∀ j, a0 ≤ j → j < a0 + m → dstOf ops j ≠ some t := fun j h1 h2 h3 => hx ⟨j, h1, h2, h3⟩
        rw [hA.out t fun j h1 h2 h3 => absurd h3 (hx' j h1 h2), i4 t fun j h1 h2 => hx' j h1 h2]
  | succ u ih =>
    rintro listed a w hc hL h0 hn ⟨σ', hA, r⟩; rw [Nat.add_right_comm]; refine ⟨fun hr => ?_, fun i hi => ?_⟩
    · exfalso
      have hall : ∀ j, j < a0 + m → Lst listed j := by
        intro j
        induction j using Nat.strongRecOn with
        | _ j ihj =>
          intro hj; refine Classical.byContradiction fun hnl => ?_; have := ready_to hL.size (by omega) hnl fun j' he => ihj j' (back_of hb he) (by have := back_of hb he; omega); rw [hr] at this
          cases this
      have hz : ∀ (n lo : Nat), lo + n ≤ a0 + m → cnt listed lo n = 0 := by
        intro n
        induction n with
        | zero => intro lo _; rfl
        | succ n ih =>
          intro lo h; unfold cnt; rw [if_pos (show listed.getD lo false = true from hall lo (by omega)), ih (lo + 1) (by omega)]
      have := hz m a0 (Nat.le_refl _); omega
    · obtain ⟨hni, his, hp⟩ := ready_of hi; have hi1 : a0 ≤ i := Nat.le_of_not_lt fun h => hni (h0 i h)
      have hi2 : i < a0 + m := Nat.lt_of_not_le fun h => by
        have hall := all_lst hL ok i h his hp
        have hz : ∀ (n lo : Nat), a0 ≤ lo → lo + n ≤ a0 + m → cnt listed lo n = 0 := by
          intro n
          induction n with
          | zero => intro lo _ _; rfl
          | succ n ih =>
            intro lo h1 h; unfold cnt; rw [if_pos (show listed.getD lo false = true from hall lo h1 (by omega)), ih (lo + 1) (by omega) (by omega)]
        have := hz m a0 (Nat.le_refl _) (Nat.le_refl _); omega
      have ho : ops[i]? = some ops[i] := by simp [his]
      have hlo : l[i - a0]? = some ops[i] := by rw [hl (i - a0) (by omega), show a0 + (i - a0) = i by omega]; exact ho
      obtain ⟨hd, hstep⟩ := hv.at_ (i - a0) _ hlo; rw [show a0 + (i - a0) = i by omega, ← hA.reads hv ok hlen hl hi1 hi2 ho hp] at hstep; obtain ⟨U, ρ, r⟩ := r; refine stepA_ok tok ho hstep (r.only _) fun s h1 v w1 U1 ρ1 hK g hs => ?_; obtain ⟨rfl, rfl⟩ := hK; have hlt : i < listed.size := by rw [hL.size]; exact his
      have g' : Go1 U ρ σ'.heap w U1 ρ1 σ.heap w1 := g; have hnew : (∀ x, Lst (listed.setIfInBounds i true) x ↔ x = i ∨ Lst listed x) := fun x => lst_set hlt; refine ih (listed.setIfInBounds i true) _ w1 (by have := cnt_set hlt hni m a0 hi1 hi2; omega) ⟨by rw [Array.size_setIfInBounds]; exact hL.size, fun k j hk he => ?_⟩ (fun j hj => (hnew j).2 (.inr (h0 j hj))) (fun j hj hx => ?_) ?_
      · rcases (hnew k).1 hk with rfl | hk
        · exact (hnew j).2 (.inr (hp j he))
        · exact (hnew j).2 (.inr (hL.dc k j hk he))
      · rcases (hnew j).1 hx with rfl | hx
        · omega
        · exact hn j hj hx
      · have hdi : dstOf ops i = ops[i].dst := dst_of ho; have r1 := r.step g'
        have hA1 : AnyAt cx ops σ vals a0 m (listed.setIfInBounds i true) { env := putE ops[i].dst (vals i) σ'.env, heap := σ.heap, n := σ'.n } := by
          refine ⟨rfl, hA.n, fun j t hj1 hj2 hj3 hj4 => ?_, fun t ht => ?_⟩
          · show look (putE _ _ _) t = _; rw [look_putE]; split
            · rename_i hdt
              rw [ok.uniq j i t hj1 hj2 hi1 hi2 hj3 (by rw [hdi]; exact hdt)]
            · rename_i hdt
              have : j ≠ i := fun e => hdt (by rw [← hdi, ← e]; exact hj3); exact hA.in_ j t hj1 hj2 hj3 (((hnew j).1 hj4).resolve_left this)
          · show look (putE _ _ _) t = _; rw [look_putE, if_neg ?_]
            · exact hA.out t fun j h1 h2 h3 h4 => ht j h1 h2 h3 ((hnew j).2 (.inr h4))
            · rw [← hdi]; exact fun h => ht i hi1 hi2 h ((hnew i).2 (.inl rfl))
        refine ⟨_, hA1, U1, ρ1, ?_⟩; have hs' : SR U1 ρ1 σ.heap w1 (vals i) v := by rw [← (show i = i from rfl)]; simpa [show a0 + (i - a0) = i by omega] using hs
        cases hdd : ops[i].dst with
        | none => exact r1
        | some d =>
          have hdn : d < σ'.n := by rw [hA.n]; exact hd d hdd
          exact r1.put (σ := { σ' with heap := σ.heap }) hdn hs'
def segsW (P : Program) (tb : Tb) (ops : Array Oper) : List Nat → List Oper → St → (St → Prop) → Prop
  | [], _, σ, K => K σ
  | m :: ms, l, σ, K => bif nb m 1 then (match l with
    | o :: r => stepA P tb ops (asg o.dst r) o σ fun s h1 => σ.put o.dst s h1 fun σ' => segsW P tb ops ms r σ' K
    | [] => False)
    else segA P tb ops (l.take m) σ fun σ' => segsW P tb ops ms (l.drop m) σ' K
theorem R.drew (r : R cx σ a w) : R cx σ a { w with drawn := w.drawn + 1 } := by
  obtain ⟨U, ρ, r⟩ := r; have t : Tr U w U { w with drawn := w.drawn + 1 } := ⟨⟨rfl, rfl, rfl, Nat.le_refl _, fun _ _ _ => rfl⟩, fun _ _ h => h⟩
  refine ⟨U, ρ, r.size, r.defers, fun t' => (r.env t').tr t (Ext.refl _ _), ⟨fun id b hb => ?_, r.hr.apart, r.hr.inU⟩, ?_, r.newU, r.oldU, r.places, r.ext⟩
  · exact (r.hr.blk id b hb).tr hb t (Ext.refl _ _) (fun _ _ _ => rfl) (fun _ _ => rfl)
  · exact r.agree.trans ⟨rfl, rfl, rfl, Nat.le_refl _, fun _ _ _ => rfl⟩ fun _ _ h => h
theorem segs_ok (tok : TbOk P tb) (hb : backChk ops = true) {K : St → Prop} (hQ : ∀ σ' a' w', K σ' → R cx σ' a' w' → Q .normal a' w') : ∀ (ms : List Nat) (a0 : Nat) (l : List Oper) (σ : St) (listed : Array Bool) (a : Act) (w : World), ops.toList.drop a0 = l → a0 ≤ ops.size → segsChk ops a0 ms = true → segsW P tb ops ms l σ K →
    LOk ops listed → (∀ j, j < a0 → Lst listed j) → (∀ j, a0 ≤ j → ¬ Lst listed j) → R cx σ a w → wpAny P .any ops Q (ops.size - a0) listed a w
  | [], a0, l, σ, listed, a, w, hl, ha, hc, hw, hL, h0, hn, r => by
    have he : a0 = ops.size := nb_eq hc; refine wpAny_done ?_ (hQ σ a w hw r) _
    cases hr : Region.ready .any ops listed with
    | nil => rfl
    | cons i t =>
      have hi := ready_of (ops := ops) (listed := listed) (i := i) (by rw [hr]; simp)
      exact absurd (h0 i (by omega)) hi.1
  | m :: ms, a0, l, σ, listed, a, w, hl, ha, hc, hw, hL, h0, hn, r => by
    obtain ⟨hc1, hc2⟩ : segChk ops a0 m = true ∧ segsChk ops (a0 + m) ms = true := by
      unfold segsChk at hc; simpa using hc
    have ok := segChk_ok hc1; unfold segsW at hw
    cases hm1 : nb m 1 with
    | true =>
      rw [hm1] at hw; obtain rfl := nb_eq hm1
      cases l with
      | nil => exact hw.elim
      | cons o rr =>
      have hw : stepA P tb ops (asg o.dst rr) o σ (fun s h1 => σ.put o.dst s h1 fun σ' => segsW P tb ops ms rr σ' K) := hw
      have hi : ops[a0]? = some o := by
        have := congrArg (fun l => l[0]?) hl; simpa [List.getElem?_drop] using this
      have hd : ops.toList.drop (a0 + 1) = rr := by
        rw [← List.drop_drop, hl]; rfl
      have hlt : a0 < ops.size := (Array.getElem?_eq_some_iff.1 hi).1; rw [show ops.size - a0 = (ops.size - (a0 + 1)) + 1 by omega]; refine ⟨fun hr => ?_, fun i hi' => ?_⟩
      · exfalso; have := ready_to hL.size hlt (hn a0 (Nat.le_refl _)) fun j he => h0 j (back_of hb he); rw [hr] at this
        cases this
      · obtain ⟨hni, his, hp⟩ := ready_of hi'; have hi1 : a0 ≤ i := Nat.le_of_not_lt fun h => hni (h0 i h)
        have hia : i = a0 := by
          rcases Nat.eq_or_lt_of_le hi1 with h | h
          · exact h.symm
          · exact absurd (all_lst hL ok i h his hp a0 (Nat.le_refl _) (by omega)) (hn a0 (Nat.le_refl _))
        subst hia; obtain ⟨U, ρ, r⟩ := r; refine stepA_ok tok hi hw r fun s h1 v w1 U1 ρ1 hK g hs => ?_; obtain ⟨σ', hK', r'⟩ := put_ok hK r g hs; have hlt' : i < listed.size := by rw [hL.size]; exact hlt
        have hnew : (∀ x, Lst (listed.setIfInBounds i true) x ↔ x = i ∨ Lst listed x) := fun x => lst_set hlt'; refine segs_ok tok hb hQ ms (i + 1) rr σ' _ _ w1 hd hlt hc2 hK' ⟨by rw [Array.size_setIfInBounds]; exact hL.size, fun k j hk he => ?_⟩ (fun j hj => ?_) (fun j hj hx => ?_) r'
        · rcases (hnew k).1 hk with rfl | hk
          · exact (hnew j).2 (.inr (hp j he))
          · exact (hnew j).2 (.inr (hL.dc k j hk he))
        · rcases Nat.lt_or_ge j i with h | h
          · exact (hnew j).2 (.inr (h0 j h))
          · exact (hnew j).2 (.inl (by omega))
        · rcases (hnew j).1 hx with rfl | hx
          · omega
          · exact hn j (by omega) hx
    | false =>
      rw [hm1] at hw; have hw : segA P tb ops (l.take m) σ (fun σ' => segsW P tb ops ms (l.drop m) σ' K) := hw
      have hm : a0 + m ≤ ops.size := by
        refine Nat.le_of_not_lt fun h => ?_
        have h3 : ∀ (ms : List Nat) (x : Nat), segsChk ops x ms = true → x ≤ ops.size := by
          intro ms
          induction ms with
          | nil => intro x hx; rw [nb_eq hx]; exact Nat.le_refl _
          | cons m ms ih =>
            intro x hx; unfold segsChk at hx; simp only [Bool.and_eq_true] at hx; have := ih _ hx.2; omega
        have := h3 ms _ hc2; omega
      obtain ⟨vals, σs, hv, hK⟩ := segA_vals _ a0 σ hw; have hll : l.length = ops.size - a0 := by rw [← hl, List.length_drop, Array.length_toList]
      have hlen : (l.take m).length = m := by rw [List.length_take]; omega
      rw [hlen] at hK
      have hlk : ∀ k, k < m → (l.take m)[k]? = ops[a0 + k]? := fun k hk => by
        rw [List.getElem?_take_of_lt hk, ← hl, List.getElem?_drop, Array.getElem?_toList]
      have hd : ops.toList.drop (a0 + m) = l.drop m := by rw [← List.drop_drop, hl]
      have hcnt : ∀ (n lo : Nat), a0 ≤ lo → cnt listed lo n = n := by
        intro n
        induction n with
        | zero => intro lo _; rfl
        | succ n ih =>
          intro lo h; unfold cnt; rw [if_neg (show ¬ listed.getD lo false = true from hn lo h), ih (lo + 1) (by omega)]; omega
      rw [show ops.size - a0 = m + (ops.size - (a0 + m)) by omega]; refine seg_any tok hb ok hv hlen hlk hm (fun listed' a' w' hL' h0' hn' r' => segs_ok tok hb hQ ms (a0 + m) (l.drop m) (σs (a0 + m)) listed' a' w' hd hm hc2 hK hL' h0' hn' r') m listed a w (hcnt m a0 (Nat.le_refl _)) hL h0 (fun j hj => hn j (by omega)) ⟨σ, ⟨rfl, rfl, fun j t h1 h2 h3 h4 => absurd h4 (hn j h1), fun _ _ => rfl⟩, r⟩
theorem W.any {id : Nat} {Q : Exit → St → Prop} (ms : List Nat) (tok : TbOk P tb) (hm : P.follows .mixedOrders = true) (hb : (backChk ops && segsChk ops 0 ms) = true) (hw : segsW P tb ops ms ops.toList σ (fun σ' => Q .normal σ')) : W P cx (.region id ops true) σ Q := fun a w r => by
  obtain ⟨hb1, hb2⟩ : backChk ops = true ∧ segsChk ops 0 ms = true := by simpa using hb
  refine wp_region_any hm ?_
  have hn : ∀ j, ¬ Lst (Array.replicate ops.size false) j := fun j h => by
    unfold Lst at h; rw [Array.getD_eq_getD_getElem?, Array.getElem?_replicate] at h; split at h <;> simp at h
  have := segs_ok (cx := cx) (Q := fun e a' w' => ∃ σ', Q e σ' ∧ R cx σ' a' w') tok hb1 (fun σ' a' w' hk r' => ⟨σ', hk, r'⟩) ms 0 ops.toList σ (Array.replicate ops.size false) a _ rfl (Nat.zero_le _) hb2 hw ⟨by simp, fun k j hk => absurd hk (hn k)⟩ (fun j hj => by omega) (fun j _ => hn j) r.drew; simpa using this
end
end Go.Den
end
section
-- the texts that this claim needs, out of this session's and its print's (wip/shrink.py)
namespace Go.Den
open Go Go.RowKit
section
variable {P : Program} {cx : Cx} {σ : St} {ops : Array Oper} {tb : Tb}
theorem W.seqR {id : Nat} {y : Code} {Q : Exit → St → Prop} (tok : TbOk P tb) (σ1 : St) (h : opsW P tb ops ops.toList σ (fun σ' => σ' = σ1)) (hk : W P cx y σ1 Q) : W P cx (.seq (.region id ops false) y) σ Q :=
  W.seq (W.mono (W.region (Q := fun e σ' => e = .normal ∧ σ' = σ1) tok (by simpa using h)) fun e σ' he => by obtain ⟨rfl, rfl⟩ := he; exact hk)
theorem W.seqA {id : Nat} {y : Code} {Q : Exit → St → Prop} (ms : List Nat) (tok : TbOk P tb) (hm : P.follows .mixedOrders = true) (hb : (backChk ops && segsChk ops 0 ms) = true) (σ1 : St) (h : segsW P tb ops ms ops.toList σ (fun σ' => σ' = σ1)) (hk : W P cx y σ1 Q) : W P cx (.seq (.region id ops true) y) σ Q :=
  W.seq (W.mono (W.any (Q := fun e σ' => e = .normal ∧ σ' = σ1) ms tok hm hb (by simpa using h)) fun e σ' he => by obtain ⟨rfl, rfl⟩ := he; exact hk)
theorem W.reg {id : Nat} {Q : Exit → St → Prop} (tok : TbOk P tb) (σ1 : St) (h : opsW P tb ops ops.toList σ (fun σ' => σ' = σ1)) (hk : Q .normal σ1) : W P cx (.region id ops false) σ Q :=
  W.mono (W.region (Q := fun e σ' => e = .normal ∧ σ' = σ1) tok (by simpa using h)) fun e σ' he => by obtain ⟨rfl, rfl⟩ := he; exact hk
theorem W.if_ {c : Operand} {x y : Code} {Q : Exit → St → Prop} (b : Bool) (hb : σ.ev c = .one (.bool b)) (h1 : b = true → W P cx x σ Q) (h2 : b = false → W P cx y σ Q) : W P cx (.cond c x y) σ Q :=
  W.cond (by unfold boolOf; rw [hb]; exact ⟨h1, h2⟩)
def endL (tb : Tb) (rs : List ResultVar) (n0 : Nat) (s : S) (h1 : List Blk) (σ : St) : Prop := match resL tb σ rs σ.heap with
  | some (l, h2, p) => p ∧ match tupOf l with
    | some r => ∃ src : List Nat, srcOk src n0 h2.length = true ∧ r.ren src = s ∧ heapCut src h2 = h1
    | none => False
  | none => False
def retQ (tb : Tb) (rs : List ResultVar) (n0 : Nat) (s : S) (h1 : List Blk) : Exit → St → Prop
  | .normal, σ => endL tb rs n0 s h1 σ
  | .ret, σ => endL tb rs n0 s h1 σ
  | _, _ => False
theorem CallStep.intro' {f : Nat} {fn : Func} {c : Code} {xs : List S} {h h1 : List Blk} {s : S} {n n0 : Nat} {rs : List ResultVar} (ok : TbOk P tb) (hf : P.funcs[f]? = some fn) (hn : (fn.name == "runtime.NumGoroutine") = false) (hb : fn.body = some c) (hnt : fn.ntmps = n) (hrs : fn.results.toList = rs) (h0 : h.length = n0) (hlen : nle xs.length n = true)
    (hw : ∀ cx : Cx, cx.h0.length = n0 → W P cx c { env := enum 0 xs, heap := h, n := n } (retQ tb rs n0 s h1)) : CallStep P f xs h s h1 := by
  subst hnt hrs h0; refine CallStep.intro ok hf hn hb (nle_le hlen) fun cx hcx => (hw cx (by rw [hcx])).mono fun e σ' he => ?_; subst hcx
  cases e <;> exact he
def keeps (σ' σ1 : St) : List (Nat × S) → Prop
  | [] => σ'.heap = σ1.heap ∧ σ'.n = σ1.n
  | (t, s) :: r => σ'.get t = s ∧ keeps σ' σ1 r
theorem keeps_get {σ' σ1 : St} : ∀ (l : List (Nat × S)), keeps σ' σ1 l → (σ'.heap = σ1.heap ∧ σ'.n = σ1.n) ∧ ∀ t, look l t = σ'.get t ∨ look l t = .undef
  | [], h => ⟨h, fun t => .inr rfl⟩
  | (t', s) :: r, h => by
    obtain ⟨h1, h2⟩ := keeps_get r h.2; refine ⟨h1, fun t => ?_⟩; show (bif nb t' t then s else look r t) = _ ∨ (bif nb t' t then s else look r t) = _
    cases hb : nb t' t with
    | true =>
      obtain rfl := nb_eq hb
      exact .inl h.1.symm
    | false => exact h2 t
theorem Le.keeps {σ' σ1 : St} (h : keeps σ' σ1 σ1.env) : Le cx σ' σ1 := fun a w r => by
  obtain ⟨⟨h1, h2⟩, h3⟩ := keeps_get _ h; exact r.of_get h1 h2 h3
theorem endL1 {t n0 : Nat} {s : S} (hg : σ.get t = s) (hs : s.ren (List.range n0) = s) (hsrc : srcOk (List.range n0) n0 σ.heap.length = true) {h1 : List Blk} (hh : heapCut (List.range n0) σ.heap = h1) : endL tb [.tmp t] n0 s h1 σ := by
  refine ⟨trivial, ?_⟩; show ∃ src : List Nat, _; exact ⟨List.range n0, hsrc, by rw [show σ.get t = s from hg]; exact hs, hh⟩
end
section
variable {α β : Type}
theorem l_drop0 (l : List α) : List.drop 0 l = l := rfl
theorem l_dropS (n : Nat) (a : α) (l : List α) : List.drop (n + 1) (a :: l) = List.drop n l := rfl
theorem l_take0 (l : List α) : List.take 0 l = [] := rfl
theorem l_takeS (n : Nat) (a : α) (l : List α) : List.take (n + 1) (a :: l) = a :: List.take n l := rfl
theorem l_mapn (f : α → β) : List.map f [] = [] := rfl
theorem l_mapc (f : α → β) (a : α) (l : List α) : List.map f (a :: l) = f a :: List.map f l := rfl
theorem l_get0 (a : α) (l : List α) : (a :: l)[0]? = some a := rfl
theorem l_getS (n : Nat) (a : α) (l : List α) : (a :: l)[n + 1]? = l[n]? := rfl
theorem l_rep0 (a : α) : List.replicate 0 a = [] := rfl
theorem l_repS (n : Nat) (a : α) : List.replicate (n + 1) a = a :: List.replicate n a := rfl
theorem l_fmn (f : α → List β) : List.flatMap f [] = [] := rfl
theorem l_fmc (f : α → List β) (a : α) (l : List α) : List.flatMap f (a :: l) = f a ++ List.flatMap f l := rfl
theorem b_nt : (!true) = false := rfl
theorem b_nf : (!false) = true := rfl
theorem l_set0 (a b : α) (l : List α) : (a :: l).set 0 b = b :: l := rfl
theorem l_setS (n : Nat) (a b : α) (l : List α) : (a :: l).set (n + 1) b = a :: l.set n b := rfl
theorem l_appn (l : List α) : [] ++ l = l := rfl
theorem l_appc (a : α) (l m : List α) : (a :: l) ++ m = a :: (l ++ m) := rfl
end
theorem isNil_row : isNil (.slice none 0 0) = true := rfl
theorem isNil_int (k : IntKind) (n : Int) : isNil (.int k n) = false := rfl
theorem isNil_bool (b : Bool) : isNil (.bool b) = false := rfl
theorem isNil_str (s : ByteArray) : isNil (.string s) = false := rfl
theorem isNil_ptr : isNil (.pointer none) = false := rfl
theorem vC_row : vC (.slice none 0 0) = .nil := rfl
theorem vC_int (k : IntKind) (n : Int) : vC (.int k n) = .int k n := rfl
theorem vC_bool (b : Bool) : vC (.bool b) = .bool b := rfl
theorem vC_str (s : ByteArray) : vC (.string s) = .str s := rfl
theorem vC_ptr : vC (.pointer none) = .nilp := rfl
theorem ofConst_row : ofConst (.slice none 0 0) = .one .nil := rfl
theorem ofConst_int (k : IntKind) (n : Int) : ofConst (.int k n) = .one (.int k n) := rfl
theorem ofConst_bool (b : Bool) : ofConst (.bool b) = .one (.bool b) := rfl
theorem ofConst_str (s : ByteArray) : ofConst (.string s) = .one (.str s) := rfl
theorem ofConst_ptr : ofConst (.pointer none) = .one .nilp := rfl
attribute [simp] l_get0 l_getS l_rep0 l_repS l_fmn l_fmc b_nt b_nf l_set0 l_setS l_appn l_appc isNil_row isNil_int isNil_bool isNil_str isNil_ptr vC_row vC_int vC_bool vC_str vC_ptr ofConst_row ofConst_int ofConst_bool ofConst_str ofConst_ptr freezeL snapIds hjoin S.shift C.shift Blk.shift
attribute [simp] l_drop0 l_dropS l_take0 l_takeS l_mapn l_mapc nb nle nlt keeps opsW segsW segA stepW stepA opW opG callOf calleeOf guardOf St.put St.ev St.get look opGps gps oL opnds Op.operands opR core asg then_ inBlk boolOf retQ endL resL tupOf partOf enum eqR q0 eqZ binR asgR unR pickR grdOf
  builtinR lenR loadR storeR addrCells mkS TD.agg isAddr addOff fieldR indexR strIndexR anyIndexR arrIndexR partR fieldVR bnd sliceR truncR slR makeR srcOf appendR fillR thaw1 thawZ allocR baseOf plR buildR fitN buildSliceR convR partR fieldVR extractR capsR intsOf
  snap cellsOf rowK isBox K.flat K.sz K.fit St.only onlyE readsOf tmpsOf dstOf heapCut C.ren S.ren Blk.ren pos srcOk
end Go.Den
end
section
-- the texts that this claim needs, out of this session's and its print's (wip/shrink.py)
namespace Go.Den
open Go Go.RowKit Go.Proofs.YtibfkkjkahpobaaGreatW.PrintWords
structure Br {α : Type} (d : Kd α) (k : K) (f : α → k.T) (g : k.T → α) : Prop where
  sz : d.sz = k.sz
  fw : ∀ {w x cs}, d.K w x cs → KR w k (f x) cs
  back : ∀ {w y cs}, KR w k y cs → d.K w (g y) cs
  gf : ∀ x, g (f x) = x
section
variable {α β : Type} {d : Kd α} {d1 : Kd β} {k k1 : K} {f : α → k.T} {g : k.T → α} {f1 : β → k1.T} {g1 : k1.T → β}
theorem Br.int (kk : IntKind) : Br (Kd.int kk) (.int kk) (fun x => x) (fun x => x) := ⟨rfl, fun h => h, fun h => h, fun _ => rfl⟩
theorem Br.bool : Br Kd.bool .bool (fun x => x) (fun x => x) := ⟨rfl, fun h => h, fun h => h, fun _ => rfl⟩
theorem Br.str : Br Kd.string .str (fun x => x) (fun x => x) := ⟨rfl, fun h => h, fun h => h, fun _ => rfl⟩
theorem Br.last (b : Br d k f g) : Br d (.pair k .unit) (fun x => (f x, ())) (fun y => g y.1) :=
  ⟨by rw [b.sz]; rfl, fun {w x cs} h => ⟨cs, [], by simp, b.fw h, rfl⟩, by
    rintro w y cs ⟨c0, c1, rfl, h0, h1⟩; obtain rfl := h1; rw [List.append_nil]
    exact b.back h0, b.gf⟩
theorem Br.pair (b : Br d k f g) (b1 : Br d1 k1 f1 g1) : Br (Kd.pair d d1) (.pair k k1) (fun x => (f x.1, f1 x.2)) (fun y => (g y.1, g1 y.2)) :=
  ⟨by show d.sz + d1.sz = _; rw [b.sz, b1.sz]; rfl, by
    rintro w x cs ⟨c0, c1, rfl, h0, h1⟩; exact ⟨c0, c1, rfl, b.fw h0, b1.fw h1⟩, by
    rintro w y cs ⟨c0, c1, rfl, h0, h1⟩
    exact ⟨c0, c1, rfl, b.back h0, b1.back h1⟩, fun x => by rw [b.gf, b1.gf]⟩
theorem Br.iso (b : Br d k f g) (p : β → α) (q : α → β) (hq : ∀ x, q (p x) = x) (hp : ∀ y, p (q y) = y) : Br (Kd.iso d p) k (fun x => f (p x)) (fun y => q (g y)) :=
  ⟨b.sz, fun h => b.fw h, fun {w y cs} h => by
    show d.K w (p (q (g y))) cs; rw [hp]
    exact b.back h, fun x => by rw [b.gf, hq]⟩
theorem Br.slice (e : Nat) (b : Br d k f g) : Br (Kd.slice e d) (.row e k) (List.map f) (List.map g) := by
  refine ⟨rfl, ?_, ?_, fun xs => ?_⟩
  · rintro w xs cs ⟨A, c, rfl, hc, h1, h2, h3⟩; refine ⟨A, c, ?_, ?_, ?_⟩
    · show _ = [Value.slice A (xs.map f).length c]; rw [List.length_map]
    · show (xs.map f).length ≤ c; rw [List.length_map]; exact hc
    · refine ⟨rfl, ?_, fun hn => ?_⟩
      · show (xs.map f).length ≤ _; rw [List.length_map]; exact h2
      · obtain ⟨ad, e1, h4⟩ := h3 (by rw [List.length_map] at hn; exact hn); refine ⟨ad, e1, fun j p hj => ?_⟩; rw [List.getElem?_map] at hj; obtain ⟨x, hx, rfl⟩ := Option.map_eq_some_iff.1 hj; obtain ⟨c1, h5, h6, h7⟩ := h4 j x hx; refine ⟨c1, h5.trans b.sz, b.fw h6, fun i u hu => ?_⟩; rw [← b.sz]; exact h7 i u hu
  · rintro w ys cs ⟨A, c, rfl, hc, h1, h2, h3⟩; refine ⟨A, c, ?_, ?_, ?_⟩
    · rw [List.length_map]
    · rw [List.length_map]; exact hc
    · refine ⟨rfl, ?_, fun hn => ?_⟩
      · rw [List.length_map]; exact h2
      · obtain ⟨ad, e1, h4⟩ := h3 (by rw [List.length_map] at hn; exact hn); refine ⟨ad, e1, fun j p hj => ?_⟩; rw [List.getElem?_map] at hj; obtain ⟨x, hx, rfl⟩ := Option.map_eq_some_iff.1 hj; obtain ⟨c1, h5, h6, h7⟩ := h4 j x hx; refine ⟨c1, h5.trans b.sz.symm, b.back h6, fun i u hu => ?_⟩; rw [b.sz]; exact h7 i u hu
  · rw [List.map_map]
    conv => rhs; rw [← List.map_id xs]
    exact List.map_congr_left fun x _ => b.gf x
variable {U : Nat → Prop} {w w1 : World} {ρ : Nat → Value} {h : List Blk}
theorem Br.ks (b : Br d k f g) {x : α} {cs : List Value} (hU : ∀ a, a < w.heap.size → ¬ U a) (hk : d.K w x cs) : KS U w k (f x) cs := fun w' ag => b.fw (d.K_below (ag.below hU) hk)
theorem Br.arg (b : Br d k f g) {x : α} {cs : List Value} (hk : KS U w k (f x) cs) : d.K w x cs := by
  have := b.back hk.now; rw [b.gf] at this; exact this
theorem Br.argRow (b : Br d k f g) {e : Nat} {xs : List α} {v : Value} (hk : KS U w (.row e k) (xs.map f) [v]) : ∃ A c, v = .slice A xs.length c ∧ xs.length ≤ c ∧ d.C w A xs.length xs := by
  obtain ⟨A, c, h1, h2, h3⟩ := (b.slice e).arg hk; exact ⟨A, c, List.singleton_inj.1 h1, h2, h3⟩
theorem Br.ofRow (b : Br d k f g) {e : Nat} {xs : List α} {A : Option Addr} {c : Nat} (hU : ∀ a, a < w.heap.size → ¬ U a) (hc : xs.length ≤ c) (hk : d.C w A xs.length xs) : KS U w (.row e k) (xs.map f) [.slice A xs.length c] :=
  (b.slice e).ks hU ⟨A, c, rfl, hc, hk⟩
theorem Br.made (b : Br d k f g) {base : Nat} {ok : Nat → Prop} {x : α} {cs : List Value} (hm : d.M w base ok x cs) (hU : ∀ a, base ≤ a → a < w.heap.size → ok a → ¬ U a) : KS U w k (f x) cs := fun w' ag =>
  b.fw (d.K_of_M (d.M_move (fun a ha => ag.block a ha.2.2.1 (hU a ha.2.1 ha.2.2.1 ha.1)) (d.M_bound hm)))
theorem Br.madeRow (b : Br d k f g) {e base : Nat} {ok : Nat → Prop} {xs : List α} {v : Value} (hm : d.R e w base ok v xs) (hU : ∀ a, base ≤ a → a < w.heap.size → ¬ U a) : KS U w (.row e k) (xs.map f) [v] :=
  (b.slice e).made (base := base) (ok := ok) ⟨v, rfl, hm⟩ fun a h1 h2 _ => hU a h1 h2
theorem Br.ownRow (b : Br d k f g) {e base : Nat} {ok : Nat → Prop} {xs : List α} {v : Value} {id : Nat} (hm : d.R e w base ok v xs) (hU : ∀ a, base ≤ a → a < w.heap.size → some a ≠ v.ownBlock → ¬ U a) (hρ : ρ id = v) : BR U ρ h w id (.row e k (xs.map f)) := by
  obtain ⟨h0, inner, ho, hr⟩ := hm; refine ⟨inner, ?_, ?_⟩
  · rw [hρ, List.length_map, ← b.sz]; exact own_weaken ho (Nat.zero_le _)
  · refine ⟨?_, fun j p hj => ?_⟩
    · rw [List.length_map, ← b.sz]; exact hr.1
    · rw [List.getElem?_map] at hj; obtain ⟨x, hx, rfl⟩ := Option.map_eq_some_iff.1 hj; have := hr.2 j x hx; rw [b.sz] at this; exact b.made this fun a h1 h2 h3 => hU a h1 h2 h3.2
end
theorem CallStep.mk1 {P : Program} {f : FuncId} {xs : List S} {s : S} (en : Enters P f) (hc : ∀ U ρ w (vs : Array Value), All2 (SR U ρ [] w) xs vs.toList → Calls P f vs w fun e w' => ∃ v, e = .returned v ∧ Below w.heap.size w w' ∧ ∀ U1, (∀ b, U1 b → b < w.heap.size) → SR U1 ρ [] w' s v) : CallStep P f xs [] s [] := by
  refine ⟨en, fun U ρ w vs hr ha => Calls.mono (hc U ρ w vs ha) ?_⟩; rintro e w' ⟨v, rfl, hb, hs⟩; refine ⟨v, fun b => U b ∧ b < w.heap.size, ρ, rfl, ⟨Agree.of_below hb, fun b _ h => h.1, fun b hlt h => .inl ⟨h, hlt⟩, ⟨fun id b h => by simp at h, fun i j g h => by simp [place] at h, fun i g h => by simp [place] at h⟩, Ext.refl _ _, fun i g h => by simp [place] at h⟩, hs _ fun b h => h.2⟩
theorem CallStep.mkOwn {P : Program} {f : FuncId} {xs : List S} {s : S} {e : Nat} {k : K} {ys : List k.T} (en : Enters P f) (hc : ∀ U ρ w (vs : Array Value), All2 (SR U ρ [] w) xs vs.toList → Calls P f vs w fun x w' => ∃ v v0, x = .returned v ∧ Below w.heap.size w w' ∧ (∀ g, v0.ownBlock = some g → w.heap.size ≤ g ∧ g < w'.heap.size) ∧
    ∀ U1 ρ1, (∀ b, U1 b → b < w.heap.size ∨ some b = v0.ownBlock) → ρ1 0 = v0 → BR U1 ρ1 [.row e k ys] w' 0 (.row e k ys) ∧ SR U1 ρ1 [.row e k ys] w' s v) : CallStep P f xs [] s [.row e k ys] := by
  refine ⟨en, fun U ρ w vs hr ha => Calls.mono (hc U ρ w vs ha) ?_⟩; rintro x w' ⟨v, v0, rfl, hb, hg, hs⟩
  have hpl : ∀ i g, place (fun _ => v0) [.row e k ys] i = some g → i = 0 ∧ v0.ownBlock = some g := fun i g h => by
    cases i with
    | zero => exact ⟨rfl, h⟩
    | succ i => simp [place] at h
  obtain ⟨h1, h2⟩ := hs (fun b => (U b ∧ b < w.heap.size) ∨ some b = v0.ownBlock) (fun _ => v0) (fun b h => h.imp (fun h => h.2) id) rfl; refine ⟨v, _, fun _ => v0, rfl, ⟨Agree.of_below hb, fun b hlt h => ?_, fun b hlt h => .inl (.inl ⟨h, hlt⟩), ⟨fun id b h => ?_, fun i j g hi hj => ?_, fun i g hi => ?_⟩, ?_, fun i g hi => ?_⟩, h2⟩
  · rcases h with h | h
    · exact h.1
    · have := (hg b h.symm).1; omega
  · cases id with
    | zero => obtain rfl := Option.some.inj h; exact h1
    | succ id => simp at h
  · rw [(hpl i g hi).1, (hpl j g hj).1]
  · obtain ⟨_, h⟩ := hpl i g hi; exact ⟨.inr h.symm, (hg g h).2⟩
  · exact ⟨Nat.zero_le _, fun id k h => by simp at h, fun id h => by simp at h⟩
  · exact .inr (hg g (hpl i g hi).2).1
end Go.Den
end
section
-- the texts that this claim needs, out of this session's and its print's (wip/shrink.py)
namespace Go.Den
open Go Go.RowKit Go.Proofs Go.Proofs.YtibfkkjkahpobaaGreatW.PrintWords Go.Proofs.YtibfkkjkahpobaaGreat.PDag
@[reducible] def kI : K := .int .i64
@[reducible] def kIns : K := .pair (.int .i64) (.pair (.int .i64) (.pair (.int .i64) (.pair (.int .i64) (.pair (.int .i64) (.pair .str .unit)))))
@[reducible] def kBun : K := .pair kIns (.pair kIns (.pair kIns (.pair kIns .unit)))
@[reducible] def kBlk : K := .pair (.row 9 .str) (.pair (.row 24 kIns) (.pair kIns .unit))
def f24 (x : S24) : kIns.T := (x.f0, x.f1, x.f2, x.f3, x.f4, x.f5, ())
def g24 (y : kIns.T) : S24 := ⟨y.1, y.2.1, y.2.2.1, y.2.2.2.1, y.2.2.2.2.1, y.2.2.2.2.2.1⟩
theorem br24 : Br k24 kIns f24 g24 := Br.iso (Br.pair (Br.int .i64) (Br.pair (Br.int .i64) (Br.pair (Br.int .i64) (Br.pair (Br.int .i64) (Br.pair (Br.int .i64) (Br.last Br.str)))))) (fun x : S24 => (x.f0, x.f1, x.f2, x.f3, x.f4, x.f5)) (fun y => ⟨y.1, y.2.1, y.2.2.1, y.2.2.2.1, y.2.2.2.2.1, y.2.2.2.2.2⟩) (fun _ => rfl) (fun _ => rfl)
def f62 (x : S62) : kBun.T := (f24 x.f0, f24 x.f1, f24 x.f2, f24 x.f3, ())
def g62 (y : kBun.T) : S62 := ⟨g24 y.1, g24 y.2.1, g24 y.2.2.1, g24 y.2.2.2.1⟩
theorem br62 : Br k62 kBun f62 g62 := Br.iso (Br.pair br24 (Br.pair br24 (Br.pair br24 (Br.last br24)))) (fun x : S62 => (x.f0, x.f1, x.f2, x.f3)) (fun y => ⟨y.1, y.2.1, y.2.2.1, y.2.2.2⟩) (fun _ => rfl) (fun _ => rfl)
theorem brStrs : Br (Kd.slice 9 Kd.string) (.row 9 .str) (fun x => x) (fun x => x) := by
  have := Br.slice 9 Br.str; rw [show (List.map fun x : ByteArray => x) = fun x => x from funext fun l => List.map_id' l] at this; exact this
theorem brInts (k : IntKind) (e : Nat) : Br (Kd.slice e (Kd.int k)) (.row e (.int k)) (fun x => x) (fun x => x) := by
  have := Br.slice e (Br.int k); rw [show (List.map fun x : Int => x) = fun x => x from funext fun l => List.map_id' l] at this; exact this
def f41 (x : S41) : kBlk.T := (x.f0, x.f1.map f24, f24 x.f2, ())
def g41 (y : kBlk.T) : S41 := ⟨y.1, y.2.1.map g24, g24 y.2.2.1⟩
theorem br41 : Br k41 kBlk f41 g41 := Br.iso (Br.pair brStrs (Br.pair (Br.slice 24 br24) (Br.last br24))) (fun x : S41 => (x.f0, x.f1, x.f2)) (fun y => ⟨y.1, y.2.1, y.2.2⟩) (fun _ => rfl) (fun _ => rfl)
section
variable {U : Nat → Prop} {ρ : Nat → Value} {h : List Blk} {w : World}
theorem argInts {k : IntKind} {e : Nat} {xs : List Int} {v : Value} (hk : KS U w (.row e (.int k)) xs [v]) : ∃ A c, v = .slice A xs.length c ∧ xs.length ≤ c ∧ (Kd.int k).C w A xs.length xs := by
  obtain ⟨A, c, h1, h2, h3⟩ := (brInts k e).arg (x := xs) hk; exact ⟨A, c, List.singleton_inj.1 h1, h2, h3⟩
theorem argStrs {xs : List ByteArray} {v : Value} (hk : KS U w (.row 9 .str) xs [v]) : ∃ A c, v = .slice A xs.length c ∧ xs.length ≤ c ∧ Kd.string.C w A xs.length xs := by
  obtain ⟨A, c, h1, h2, h3⟩ := brStrs.arg (x := xs) hk; exact ⟨A, c, List.singleton_inj.1 h1, h2, h3⟩
theorem vs1 {s : S} {vs : Array Value} (ha : All2 (SR U ρ h w) [s] vs.toList) : ∃ v, vs = #[v] ∧ SR U ρ h w s v := by
  obtain ⟨v, vs', h1, h2, h3⟩ := ha.left_cons; obtain rfl := h3.left_nil; exact ⟨v, Array.toList_inj.1 h1, h2⟩
theorem vs2 {s s' : S} {vs : Array Value} (ha : All2 (SR U ρ h w) [s, s'] vs.toList) : ∃ v v', vs = #[v, v'] ∧ SR U ρ h w s v ∧ SR U ρ h w s' v' := by
  obtain ⟨v, vs', h1, h2, h3⟩ := ha.left_cons; obtain ⟨v', vs'', rfl, h4, h5⟩ := h3.left_cons; obtain rfl := h5.left_nil; exact ⟨v, v', Array.toList_inj.1 h1, h2, h4⟩
theorem blkArg {b : S41} {v : Value} (ha : SR U ρ h w (.agg (kBlk.flat (f41 b))) v) : ∃ A0 c0 A1 c1, v = .agg #[.slice A0 b.f0.length c0, .slice A1 b.f1.length c1, .int .i64 b.f2.f0, .int .i64 b.f2.f1, .int .i64 b.f2.f2, .int .i64 b.f2.f3, .int .i64 b.f2.f4, .string b.f2.f5] ∧
    b.f0.length ≤ c0 ∧ Kd.string.C w A0 b.f0.length b.f0 ∧ b.f1.length ≤ c1 ∧ k24.C w A1 b.f1.length b.f1 := by
  obtain ⟨cs, rfl, h1⟩ := ha; obtain ⟨v0, l0, e0, a0, h1⟩ := h1.left_cons; obtain ⟨v1, l1, rfl, a1, h1⟩ := h1.left_cons; obtain ⟨v2, l2, rfl, a2, h1⟩ := h1.left_cons; obtain ⟨v3, l3, rfl, a3, h1⟩ := h1.left_cons; obtain ⟨v4, l4, rfl, a4, h1⟩ := h1.left_cons; obtain ⟨v5, l5, rfl, a5, h1⟩ := h1.left_cons; obtain ⟨v6, l6, rfl, a6, h1⟩ := h1.left_cons; obtain ⟨v7, l7, rfl, a7, h1⟩ := h1.left_cons; obtain rfl := h1.left_nil; obtain ⟨A0, c0, rfl, b1, b2⟩ := argStrs (xs := b.f0) a0; obtain ⟨A1, c1, rfl, b3, b4⟩ := br24.argRow (e := 24) (xs := b.f1) a1; refine ⟨A0, c0, A1, c1, ?_, b1, b2, b3, b4⟩; have : cs = #[.slice A0 b.f0.length c0, .slice A1 b.f1.length c1, v2, v3, v4, v5, v6, v7] := Array.toList_inj.1 e0; rw [this, show v2 = _ from a2, show v3 = _ from a3, show v4 = _ from a4, show v5 = _ from a5, show v6 = _ from a6, show v7 = _ from a7]; rfl
end
end Go.Den
end
section
-- the texts that this claim needs, out of this session's and its print's (wip/shrink.py)
namespace Go.Den
open Go Go.RowKit Go.Proofs Go.Proofs.YtibfkkjkahpobaaGreatW.PrintWords Go.Proofs.YtibfkkjkahpobaaGreat.PDag
def fV : Value → Bool
  | .int _ _ => true
  | .bool _ => true
  | .string _ => true
  | _ => false
theorem fV_back {U : Nat → Prop} {ρ : Nat → Value} {h : List Blk} {w : World} {v u : Value} (hv : fV v = true) (hc : CR U ρ h w (vC v) u) : u = v := by
  unfold fV at hv; split at hv <;> first | exact hc | cases hv
theorem fV_args {U : Nat → Prop} {ρ : Nat → Value} {h : List Blk} {w : World} : ∀ (l vs : List Value), l.all fV = true → All2 (SR U ρ h w) (l.map fun v => .one (vC v)) vs → vs = l
  | [], vs, _, ha => ha.left_nil
  | v :: l, vs, hl, ha => by
    obtain ⟨u, us, rfl, h1, h2⟩ := ha.left_cons; simp only [List.all_cons, Bool.and_eq_true] at hl; rw [fV_back hl.1 h1, fV_args l us hl.2 h2]
theorem fV_out {U : Nat → Prop} {ρ : Nat → Value} {h : List Blk} {w : World} {v : Value} (hv : fV v = true) : CR U ρ h w (vC v) v := by
  unfold fV at hv; split at hv <;> first | rfl | cases hv
theorem mkF (f : FuncId) (args : Array Value) (v : Value) (ha : args.toList.all fV = true) (hv : fV v = true) (en : Enters Tryz.prog f) (hc : ∀ w, Calls Tryz.prog f args w fun e w' => e = .returned v ∧ Below w.heap.size w w') : CallStep Tryz.prog f (args.toList.map fun v => .one (vC v)) [] (.one (vC v)) [] := by
  refine CallStep.mk1 en fun U ρ w vs hs => ?_; obtain rfl : vs = args := Array.toList_inj.1 (fV_args _ _ ha hs); refine Calls.mono (hc w) ?_; rintro e w' ⟨rfl, hB⟩; exact ⟨_, rfl, hB, fun U1 hU => fV_out hv⟩
end Go.Den
end
section
-- the texts that this claim needs, out of this session's and its print's (wip/shrink.py)
namespace Go.Den
open Go Go.RowKit
section
variable {P : Program} {cx : Cx} {σ : St} {ops : Array Oper} {tb : Tb}
def keepsC (src : List Nat) (σ' σ1 : St) : List (Nat × S) → Prop
  | [] => heapCut src σ'.heap = σ1.heap ∧ σ'.n = σ1.n
  | (t, s) :: r => (σ'.get t).ren src = s ∧ keepsC src σ' σ1 r
theorem keepsC_get {src : List Nat} {σ' σ1 : St} : ∀ (l : List (Nat × S)), keepsC src σ' σ1 l → (heapCut src σ'.heap = σ1.heap ∧ σ'.n = σ1.n) ∧ ∀ t, look l t = look ((l.map Prod.fst).map fun t => (t, (σ'.get t).ren src)) t ∨ look l t = .undef
  | [], h => ⟨h, fun t => .inr rfl⟩
  | (t', s) :: r, h => by
    obtain ⟨h1, h2⟩ := keepsC_get r h.2; refine ⟨h1, fun t => ?_⟩; show (bif nb t' t then s else look r t) = (bif nb t' t then (σ'.get t').ren src else look ((r.map Prod.fst).map fun t => (t, (σ'.get t).ren src)) t) ∨ (bif nb t' t then s else look r t) = _
    cases hb : nb t' t with
    | true => exact .inl h.1.symm
    | false => exact h2 t
theorem Le.to {σ' σ1 : St} {n0 : Nat} (src : List Nat) (hcx : cx.h0.length = n0) (hs : srcOk src n0 σ'.heap.length = true) (h : keepsC src σ' σ1 σ1.env) : Le cx σ' σ1 := fun a w r => by
  subst hcx; obtain ⟨⟨h1, h2⟩, h3⟩ := keepsC_get _ h; exact (Le.cut (σ1.env.map Prod.fst) src hs a w r).of_get h1 h2 h3
theorem W.rowLen {c : Code} {Q : Exit → St → Prop} (t : Nat) {e : Nat} {k : K} {xs : List k.T} (ht : σ.get t = .one (.row e k xs)) (h : xs.length ≤ 9223372036854775807 → W P cx c σ Q) : W P cx c σ Q := fun a w r => by
  obtain ⟨U, ρ, r0⟩ := r; have h1 := r0.env t; rw [ht] at h1; obtain ⟨A, cc, h2, h3, h4⟩ := KS.now (k := .row e k) (x := xs) h1; exact h h4.2.1 a w ⟨U, ρ, r0⟩
theorem W.ifT {c : Operand} {x y : Code} {Q : Exit → St → Prop} (hb : σ.ev c = .one (.bool true)) (h : W P cx x σ Q) : W P cx (.cond c x y) σ Q := W.if_ true hb (fun _ => h) (fun h => by cases h)
theorem W.ifF {c : Operand} {x y : Code} {Q : Exit → St → Prop} (hb : σ.ev c = .one (.bool false)) (h : W P cx y σ Q) : W P cx (.cond c x y) σ Q := W.if_ false hb (fun h => by cases h) (fun _ => h)
theorem W.regA {id : Nat} {Q : Exit → St → Prop} (ms : List Nat) (tok : TbOk P tb) (hm : P.follows .mixedOrders = true) (hb : (backChk ops && segsChk ops 0 ms) = true) (σ1 : St) (h : segsW P tb ops ms ops.toList σ (fun σ' => σ' = σ1)) (hk : Q .normal σ1) : W P cx (.region id ops true) σ Q :=
  W.mono (W.any (Q := fun e σ' => e = .normal ∧ σ' = σ1) ms tok hm hb (by simpa using h)) fun e σ' he => by obtain ⟨rfl, rfl⟩ := he; exact hk
theorem W.ifJ {c : Operand} {x y z : Code} {Q : Exit → St → Prop} (σ1 : St) (b : Bool) (hb : σ.ev c = .one (.bool b)) (h1 : b = true → W P cx x σ (then_ Q fun σ' => Le cx σ' σ1)) (h2 : b = false → W P cx y σ (then_ Q fun σ' => Le cx σ' σ1)) (hk : W P cx z σ1 Q) : W P cx (.cond c x y) σ (then_ Q fun σ' => W P cx z σ' Q) := by
  have hq : ∀ e σ', then_ Q (fun σ' => Le cx σ' σ1) e σ' → then_ Q (fun σ' => W P cx z σ' Q) e σ' := fun e σ' h => by
    cases e with
    | normal => exact W.le h hk
    | _ => exact h
  exact W.if_ b hb (fun h => (h1 h).mono hq) (fun h => (h2 h).mono hq)
end
attribute [simp] keepsC
section
variable {P : Program} {cx : Cx} {σ : St} {ops : Array Oper} {tb : Tb}
theorem W.sR {id : Nat} {y : Code} {Q : Exit → St → Prop} (tok : TbOk P tb) {σ1 : St} (hk : W P cx y σ1 Q) (h : opsW P tb ops ops.toList σ (fun σ' => σ' = σ1) := by (repeat' first | dsimp | simp only [castRow_self] | apply And.intro) <;> first | rfl | trivial | assumption | omega | (intros; and_intros <;> first | rfl | trivial | assumption | omega)) : W P cx (.seq (.region id ops false) y) σ Q := W.seqR tok σ1 h hk
theorem W.rR {id : Nat} {Q : Exit → St → Prop} (tok : TbOk P tb) {σ1 : St} (hk : Q .normal σ1) (h : opsW P tb ops ops.toList σ (fun σ' => σ' = σ1) := by (repeat' first | dsimp | simp only [castRow_self] | apply And.intro) <;> first | rfl | trivial | assumption | omega | (intros; and_intros <;> first | rfl | trivial | assumption | omega)) : W P cx (.region id ops false) σ Q := W.reg tok σ1 h hk
theorem W.sA {id : Nat} {y : Code} {Q : Exit → St → Prop} (ms : List Nat) (tok : TbOk P tb) {σ1 : St} (hk : W P cx y σ1 Q) (hm : P.follows .mixedOrders = true := by rfl) (hb : (backChk ops && segsChk ops 0 ms) = true := by rfl) (h : segsW P tb ops ms ops.toList σ (fun σ' => σ' = σ1) := by (repeat' first | dsimp | simp only [castRow_self] | apply And.intro) <;> first | rfl | trivial | assumption | omega | (intros; and_intros <;> first | rfl | trivial | assumption | omega)) : W P cx (.seq (.region id ops true) y) σ Q := W.seqA ms tok hm hb σ1 h hk
theorem W.rA {id : Nat} {Q : Exit → St → Prop} (ms : List Nat) (tok : TbOk P tb) {σ1 : St} (hk : Q .normal σ1) (hm : P.follows .mixedOrders = true := by rfl) (hb : (backChk ops && segsChk ops 0 ms) = true := by rfl) (h : segsW P tb ops ms ops.toList σ (fun σ' => σ' = σ1) := by (repeat' first | dsimp | simp only [castRow_self] | apply And.intro) <;> first | rfl | trivial | assumption | omega | (intros; and_intros <;> first | rfl | trivial | assumption | omega)) : W P cx (.region id ops true) σ Q := W.regA ms tok hm hb σ1 h hk
theorem W.sO {id : Nat} {y : Code} {Q : Exit → St → Prop} (tok : TbOk P tb) {σ1 : St} (hk : W P cx y σ1 Q) (h : opsW P tb ops ops.toList σ (fun σ' => σ' = σ1) := by (repeat' first | dsimp | simp only [castRow_self] | apply And.intro | (refine Exists.intro _ (Exists.intro _ (And.intro (by first | exact CallStep.pure (by assumption) rfl (by rfl) | exact CallStep.rows (by assumption) rfl) ?_))) | (refine Exists.intro _ (And.intro (fun _ => And.intro ?_ (by first | exact CallStep.pure (by assumption) rfl (by rfl) | exact CallStep.rows (H1 := []) (by assumption) rfl)) ?_))) <;> first | rfl | trivial | assumption | omega | (intros; and_intros <;> first | rfl | trivial | assumption | omega) | (intro h; rw [h]; rfl) | (intro h1; exact ⟨⟨h1, trivial⟩, ⟨fun _ => trivial, fun h2 => by rw [h1, h2]; rfl⟩, trivial⟩) | (intro h1; exact ⟨⟨h1, trivial⟩, ⟨fun h2 => by rw [h1, h2]; rfl, fun _ => trivial⟩, trivial⟩)) : W P cx (.seq (.region id ops false) y) σ Q := W.seqR tok σ1 h hk
theorem W.rO {id : Nat} {Q : Exit → St → Prop} (tok : TbOk P tb) {σ1 : St} (hk : Q .normal σ1) (h : opsW P tb ops ops.toList σ (fun σ' => σ' = σ1) := by (repeat' first | dsimp | simp only [castRow_self] | apply And.intro | (refine Exists.intro _ (Exists.intro _ (And.intro (by first | exact CallStep.pure (by assumption) rfl (by rfl) | exact CallStep.rows (by assumption) rfl) ?_))) | (refine Exists.intro _ (And.intro (fun _ => And.intro ?_ (by first | exact CallStep.pure (by assumption) rfl (by rfl) | exact CallStep.rows (H1 := []) (by assumption) rfl)) ?_))) <;> first | rfl | trivial | assumption | omega | (intros; and_intros <;> first | rfl | trivial | assumption | omega) | (intro h; rw [h]; rfl) | (intro h1; exact ⟨⟨h1, trivial⟩, ⟨fun _ => trivial, fun h2 => by rw [h1, h2]; rfl⟩, trivial⟩) | (intro h1; exact ⟨⟨h1, trivial⟩, ⟨fun h2 => by rw [h1, h2]; rfl, fun _ => trivial⟩, trivial⟩)) : W P cx (.region id ops false) σ Q := W.reg tok σ1 h hk
theorem W.aO {id : Nat} {y : Code} {Q : Exit → St → Prop} (ms : List Nat) (tok : TbOk P tb) {σ1 : St} (hk : W P cx y σ1 Q) (hm : P.follows .mixedOrders = true := by rfl) (hb : (backChk ops && segsChk ops 0 ms) = true := by rfl) (h : segsW P tb ops ms ops.toList σ (fun σ' => σ' = σ1) := by (repeat' first | dsimp | simp only [castRow_self] | apply And.intro | (refine Exists.intro _ (Exists.intro _ (And.intro (by first | exact CallStep.pure (by assumption) rfl (by rfl) | exact CallStep.rows (by assumption) rfl) ?_))) | (refine Exists.intro _ (And.intro (fun _ => And.intro ?_ (by first | exact CallStep.pure (by assumption) rfl (by rfl) | exact CallStep.rows (H1 := []) (by assumption) rfl)) ?_))) <;> first | rfl | trivial | assumption | omega | (intros; and_intros <;> first | rfl | trivial | assumption | omega) | (intro h; rw [h]; rfl) | (intro h1; exact ⟨⟨h1, trivial⟩, ⟨fun _ => trivial, fun h2 => by rw [h1, h2]; rfl⟩, trivial⟩) | (intro h1; exact ⟨⟨h1, trivial⟩, ⟨fun h2 => by rw [h1, h2]; rfl, fun _ => trivial⟩, trivial⟩)) : W P cx (.seq (.region id ops true) y) σ Q := W.seqA ms tok hm hb σ1 h hk
theorem W.bO {id : Nat} {Q : Exit → St → Prop} (ms : List Nat) (tok : TbOk P tb) {σ1 : St} (hk : Q .normal σ1) (hm : P.follows .mixedOrders = true := by rfl) (hb : (backChk ops && segsChk ops 0 ms) = true := by rfl) (h : segsW P tb ops ms ops.toList σ (fun σ' => σ' = σ1) := by (repeat' first | dsimp | simp only [castRow_self] | apply And.intro | (refine Exists.intro _ (Exists.intro _ (And.intro (by first | exact CallStep.pure (by assumption) rfl (by rfl) | exact CallStep.rows (by assumption) rfl) ?_))) | (refine Exists.intro _ (And.intro (fun _ => And.intro ?_ (by first | exact CallStep.pure (by assumption) rfl (by rfl) | exact CallStep.rows (H1 := []) (by assumption) rfl)) ?_))) <;> first | rfl | trivial | assumption | omega | (intros; and_intros <;> first | rfl | trivial | assumption | omega) | (intro h; rw [h]; rfl) | (intro h1; exact ⟨⟨h1, trivial⟩, ⟨fun _ => trivial, fun h2 => by rw [h1, h2]; rfl⟩, trivial⟩) | (intro h1; exact ⟨⟨h1, trivial⟩, ⟨fun h2 => by rw [h1, h2]; rfl, fun _ => trivial⟩, trivial⟩)) : W P cx (.region id ops true) σ Q := W.regA ms tok hm hb σ1 h hk
end
end Go.Den
end
section
namespace Go.Proofs.YtibfkkjkahpobaaGreat.PDag
open Go.RowKit Go.Proofs.YtibfkkjkahpobaaGreatW.PrintWords Go.Proofs.YtibfkkjkahpobaaGreatW.PrintLast Go.Proofs.YtibfkkjkahpobaaGreatW.PrintMore
attribute [local go_sem] max2_int min2_int max_two min_two max_three min_three max_four min_four
theorem eqA24 (d : Nat) (w : World) (x0 y0 : Int) (x1 y1 : Int) (x2 y2 : Int) (x3 y3 : Int) (x4 y4 : Int) (x5 y5 : ByteArray) :
    (Op.equalIn (d + 2) 24 (.agg #[.int .i64 x0, .int .i64 x1, .int .i64 x2, .int .i64 x3, .int .i64 x4, .string x5]) (.agg #[.int .i64 y0, .int .i64 y1, .int .i64 y2, .int .i64 y3, .int .i64 y4, .string y5])).run Tryz.prog w = .ok (x0 == y0 && (x1 == y1 && (x2 == y2 && (x3 == y3 && (x4 == y4 && (x5.toList == y5.toList)))))) w := by
 refine eqA_of Tryz.underlying24 (by kernel_rfl) ?_; refine eqf_cons (by rfl) (by go_simp; rfl) (by go_simp; rfl) (by go_simp) ?_; refine eqf_cons (by rfl) (by go_simp; rfl) (by go_simp; rfl) (by go_simp) ?_; refine eqf_cons (by rfl) (by go_simp; rfl) (by go_simp; rfl) (by go_simp) ?_; refine eqf_cons (by rfl) (by go_simp; rfl) (by go_simp; rfl) (by go_simp) ?_; refine eqf_cons (by rfl) (by go_simp; rfl) (by go_simp; rfl) (by go_simp) ?_; exact eqf_last (by rfl) (by go_simp; rfl) (by go_simp; rfl) (by go_simp)
end Go.Proofs.YtibfkkjkahpobaaGreat.PDag
end
