import Derived.Test.YtibfkkjkahpobaaHd22
import Derived.Test.YtibfkkjkahpobaaHd15
set_option linter.unusedVariables false
set_option linter.unusedSimpArgs false
set_option maxHeartbeats 8000000
set_option maxRecDepth 100000
open Go.RowKit Go.Proofs.YtibfkkjkahpobaaW.PrintWords Go.Proofs.YtibfkkjkahpobaaW.PrintLast Go.Proofs.YtibfkkjkahpobaaW.PrintMore
namespace Go.Proofs.Ytibfkkjkahpobaa.PDag
section
structure PSt where
  at_ : List Int
  sl : List Int
  left : Int
def rdy (E : List S51) (a : List Int) (i : Nat) (c : Int) : Bool := E.all fun e => e.f1 != (i : Int) || (decide (0 ≤ rd a e.f0) && decide (rd a e.f0 + e.f2 ≤ c))
def cand (may : Nat → Int → Bool) (E : List S51) (a : List Int) (c s : Int) (i : Nat) : Bool := may i s && (decide (rd a i < 0) && rdy E a i c)
def better (U H : List Int) (b i : Int) : Bool := decide (b < 0) || (decide (rd U i < rd U b) || (rd U i == rd U b && decide (rd H b < rd H i)))
def bestUp (p : Nat → Bool) (U H : List Int) : Nat → Int
  | 0 => -1
  | i + 1 => if (p i && better U H (bestUp p U H i) i) = true then (i : Int) else bestUp p U H i
section
variable (may : Nat → Int → Bool) (n : Nat) (E : List S51) (U H : List Int)
def slotStep (x : PSt) (cs : Int × Int) : PSt :=
  let b := bestUp (cand may E x.at_ cs.1 cs.2) U H n
  if 0 ≤ b then ⟨x.at_.set b.toNat cs.1, x.sl.set b.toNat cs.2, x.left - 1⟩ else x
def four4 (c : Int) : List (Int × Int) := [(c, 0), (c, 1), (c, 2), (c, 3)]
def cycStep (x : PSt) (c : Int) : PSt := (four4 c).foldl (slotStep may n E U H) x
def runN : Nat → Int → PSt → PSt
  | 0, _, x => x
  | f + 1, c, x => if 0 < x.left then runN f (c + 1) (cycStep may n E U H x c) else x
end
theorem bestUp_range (p : Nat → Bool) (U H : List Int) : ∀ n, bestUp p U H n = -1 ∨ ∃ i : Nat, i < n ∧ bestUp p U H n = (i : Int) ∧ p i = true
  | 0 => .inl rfl
  | n + 1 => by
    rw [bestUp]
    by_cases h : (p n && better U H (bestUp p U H n) n) = true
    · rw [if_pos h]; simp only [Bool.and_eq_true] at h; exact .inr ⟨n, by omega, rfl, h.1⟩
    · rw [if_neg h]; rcases bestUp_range p U H n with h1 | ⟨i, h1, h2⟩
      · exact .inl h1
      · exact .inr ⟨i, by omega, h2⟩
theorem bestUp_some (p : Nat → Bool) (U H : List Int) : ∀ (n i : Nat), i < n → p i = true → 0 ≤ bestUp p U H n
  | n + 1, i, hi, hp => by
    rw [bestUp]
    by_cases h : (p n && better U H (bestUp p U H n) n) = true
    · rw [if_pos h]; omega
    · rw [if_neg h]
      by_cases hin : i = n
      · subst hin; rw [hp, Bool.true_and] at h; unfold better at h
        by_cases hb : bestUp p U H i < 0
        · rw [decide_eq_true hb] at h; simp at h
        · omega
      · exact bestUp_some p U H n i (by omega) hp
theorem bestUp_congr (p q : Nat → Bool) (U H : List Int) : ∀ n, (∀ i, i < n → p i = q i) → bestUp p U H n = bestUp q U H n
  | 0, _ => rfl
  | n + 1, h => by rw [bestUp, bestUp, bestUp_congr p q U H n (fun i hi => h i (by omega)), h n (by omega)]
theorem rd_lt (h : List Int) (i : Nat) (hi : i < h.length) : rd h (i : Int) = h[i] := by
  unfold rd; rw [Int.toNat_natCast, List.getD_eq_getElem?_getD, List.getElem?_eq_getElem hi]; rfl
theorem rd_same (h : List Int) (i : Nat) (v : Int) (hi : i < h.length) : rd (h.set i v) (i : Int) = v := by
  rw [rd_lt _ i (by simpa using hi)]; simp
theorem rd_other (h : List Int) (i t : Nat) (v : Int) (hne : t ≠ i) : rd (h.set i v) (t : Int) = rd h (t : Int) := by
  unfold rd; rw [Int.toNat_natCast, List.getD_eq_getElem?_getD, List.getD_eq_getElem?_getD, List.getElem?_set_ne (fun e => hne e.symm)]
def opens_ (a : List Int) : Nat := a.countP (fun v => decide (v < 0))
theorem open_set : ∀ (a : List Int) (i : Nat) (v : Int), i < a.length → rd a i < 0 → 0 ≤ v → opens_ (a.set i v) + 1 = opens_ a
  | [], i, v, h, _, _ => absurd h (Nat.not_lt_zero _)
  | x :: a, 0, v, h, h1, h2 => by
    have hx : x < 0 := by simpa [rd] using h1
    simp only [opens_, List.set_cons_zero, List.countP_cons]
    rw [if_neg (by simpa using h2), if_pos (by simpa using hx)]
  | x :: a, i + 1, v, h, h1, h2 => by
    have h1' : rd a i < 0 := by simpa [rd] using h1
    have := open_set a i v (by simpa using h) h1' h2; simp only [opens_, List.set_cons_succ, List.countP_cons] at this ⊢; omega
theorem open_some : ∀ (a : List Int), 0 < opens_ a → ∃ i : Nat, i < a.length ∧ rd a i < 0 ∧ ∀ j : Nat, j < i → 0 ≤ rd a j
  | [], h => absurd h (by simp [opens_])
  | x :: a, h => by
    by_cases hx : x < 0
    · exact ⟨0, by simp, by simpa [rd] using hx, fun j hj => absurd hj (Nat.not_lt_zero _)⟩
    · simp only [opens_, List.countP_cons] at h; rw [if_neg (by simpa using hx)] at h; obtain ⟨i, h1, h2, h3⟩ := open_some a (by simpa [opens_] using h); refine ⟨i + 1, by simpa using h1, by simpa [rd] using h2, fun j hj => ?_⟩
      cases j with
      | zero => simp [rd]; omega
      | succ j => simpa [rd] using h3 j (by omega)
theorem open_none (a : List Int) (h : opens_ a = 0) : ∀ i : Nat, i < a.length → 0 ≤ rd a i := by
  intro i hi; rw [rd_lt a i hi]; have := List.countP_eq_zero.1 h a[i] (List.getElem_mem hi); simpa using this
structure PGood (n : Nat) (c : Int) (x : PSt) : Prop where
  len : x.at_.length = n
  len2 : x.sl.length = n
  left : x.left = (opens_ x.at_ : Int)
  up : ∀ i : Nat, i < n → -1 ≤ rd x.at_ i ∧ rd x.at_ i ≤ c
  slots : ∀ i : Nat, i < n → 0 ≤ rd x.sl i ∧ rd x.sl i ≤ 3
theorem PGood.later {n : Nat} {c d : Int} {x : PSt} (h : PGood n c x) (hd : c ≤ d) : PGood n d x := ⟨h.len, h.len2, h.left, fun i hi => ⟨(h.up i hi).1, Int.le_trans (h.up i hi).2 hd⟩, h.slots⟩
variable {may : Nat → Int → Bool} {n : Nat} {E : List S51} {U H : List Int}
theorem slot_good {c s : Int} {x : PSt} (h : PGood n c x) (hc : 0 ≤ c) (hs : 0 ≤ s ∧ s ≤ 3) : PGood n c (slotStep may n E U H x (c, s)) := by
  unfold slotStep; rcases bestUp_range (cand may E x.at_ c s) U H n with h1 | ⟨i, h1, h2, h3⟩
  · simp only [h1]; rw [if_neg (by omega)]; exact h
  · simp only [h2]; rw [if_pos (by omega), Int.toNat_natCast]
    have hlt : rd x.at_ i < 0 := by
      unfold cand at h3; simp only [Bool.and_eq_true, decide_eq_true_eq] at h3; exact h3.2.1
    refine ⟨by simp [h.len], by simp [h.len2], ?_, ?_, ?_⟩
    · have := open_set x.at_ i c (by rw [h.len]; exact h1) hlt hc; show x.left - 1 = (opens_ (x.at_.set i c) : Int); rw [h.left]; omega
    · intro j hj; show -1 ≤ rd (x.at_.set i c) j ∧ rd (x.at_.set i c) j ≤ c
      by_cases e : j = i
      · subst e; rw [rd_same _ _ _ (by rw [h.len]; exact hj)]; omega
      · rw [rd_other _ _ _ _ e]; exact h.up j hj
    · intro j hj; show 0 ≤ rd (x.sl.set i s) j ∧ rd (x.sl.set i s) j ≤ 3
      by_cases e : j = i
      · subst e; rw [rd_same _ _ _ (by rw [h.len2]; exact hj)]; exact hs
      · rw [rd_other _ _ _ _ e]; exact h.slots j hj
theorem slot_less (x : PSt) (p : Int × Int) : slotStep may n E U H x p = x ∨ (slotStep may n E U H x p).left < x.left := by
  unfold slotStep
  by_cases h : 0 ≤ bestUp (cand may E x.at_ p.1 p.2) U H n
  · simp only [h, if_true]; right; show x.left - 1 < x.left; omega
  · left; simp only [h, if_false]
theorem slots_less : ∀ (ps : List (Int × Int)) (x : PSt), ps.foldl (slotStep may n E U H) x = x ∨ (ps.foldl (slotStep may n E U H) x).left < x.left
  | [], x => .inl rfl
  | p :: ps, x => by
    rw [List.foldl_cons]; rcases slot_less (may := may) (n := n) (E := E) (U := U) (H := H) x p with h | h
    · rw [h]; exact slots_less ps x
    · right; rcases slots_less ps (slotStep may n E U H x p) with h2 | h2
      · rw [h2]; exact h
      · omega
theorem slots_less_at (ps qs : List (Int × Int)) (p : Int × Int) (x : PSt) (i : Nat) (hi : i < n) (hc : cand may E x.at_ p.1 p.2 i = true) : ((ps ++ p :: qs).foldl (slotStep may n E U H) x).left < x.left := by
  rw [List.foldl_append, List.foldl_cons]
  have h3 : ∀ y : PSt, (qs.foldl (slotStep may n E U H) y).left ≤ y.left := fun y => by
    rcases slots_less (may := may) (n := n) (E := E) (U := U) (H := H) qs y with h | h
    · rw [h]; exact Int.le_refl _
    · omega
  rcases slots_less (may := may) (n := n) (E := E) (U := U) (H := H) ps x with h | h
  · rw [h]; have h1 := h3 (slotStep may n E U H x p)
    have h2 : (slotStep may n E U H x p).left < x.left := by
      unfold slotStep; have hb := bestUp_some (cand may E x.at_ p.1 p.2) U H n i hi hc; simp only [hb, if_true]; show x.left - 1 < x.left; omega
    omega
  · have h1 := h3 (slotStep may n E U H (ps.foldl (slotStep may n E U H) x) p); rcases slot_less (may := may) (n := n) (E := E) (U := U) (H := H) (ps.foldl (slotStep may n E U H) x) p with h2 | h2
    · rw [h2] at h1 ⊢; omega
    · omega
theorem cyc_good {c : Int} {x : PSt} (h : PGood n c x) (hc : 0 ≤ c) : PGood n c (cycStep may n E U H x c) := by
  unfold cycStep four4; simp only [List.foldl_cons, List.foldl_nil]; exact slot_good (slot_good (slot_good (slot_good h hc (by omega)) hc (by omega)) hc (by omega)) hc (by omega)
structure PFine (may : Nat → Int → Bool) (n : Nat) (E : List S51) : Prop where
  on : ∀ e ∈ E, ∃ i t : Nat, e.f0 = (i : Int) ∧ e.f1 = (t : Int) ∧ i < t ∧ t < n ∧ 0 ≤ e.f2 ∧ e.f2 ≤ 4
  goes : ∀ i : Nat, i < n → ∃ s : Int, 0 ≤ s ∧ s ≤ 3 ∧ may i s = true
theorem four_split (s c : Int) (h0 : 0 ≤ s) (h1 : s ≤ 3) : ∃ ps qs, four4 c = ps ++ (c, s) :: qs := by
  have : s = 0 ∨ s = 1 ∨ s = 2 ∨ s = 3 := by omega
  rcases this with rfl | rfl | rfl | rfl
  · exact ⟨[], [(c, 1), (c, 2), (c, 3)], rfl⟩
  · exact ⟨[(c, 0)], [(c, 2), (c, 3)], rfl⟩
  · exact ⟨[(c, 0), (c, 1)], [(c, 3)], rfl⟩
  · exact ⟨[(c, 0), (c, 1), (c, 2)], [], rfl⟩
theorem cycs (c : Int) (x : PSt) : cycStep may n E U H (cycStep may n E U H (cycStep may n E U H (cycStep may n E U H x c) (c + 1)) (c + 2)) (c + 3) = (four4 c ++ four4 (c + 1) ++ four4 (c + 2) ++ four4 (c + 3)).foldl (slotStep may n E U H) x := by
  simp only [cycStep, List.foldl_append]
theorem four_less (hf : PFine may n E) {c : Int} {x : PSt} (h : PGood n (c - 1) x) (hl : 0 < x.left) :
    (cycStep may n E U H (cycStep may n E U H (cycStep may n E U H (cycStep may n E U H x c) (c + 1)) (c + 2)) (c + 3)).left < x.left := by
  rw [cycs]; obtain ⟨i, h1, h2, h3⟩ := open_some x.at_ (by have := h.left; omega); rw [h.len] at h1; obtain ⟨s, s0, s1, hm⟩ := hf.goes i h1; obtain ⟨ps, qs, hp⟩ := four_split s (c + 3) s0 s1; rw [hp, ← List.append_assoc]; refine slots_less_at _ qs _ x i h1 ?_; unfold cand; rw [hm, decide_eq_true h2, Bool.true_and, Bool.true_and]; unfold rdy; rw [List.all_eq_true]; intro e he; obtain ⟨a, t, e0, e1, hat, htn, d0, d1⟩ := hf.on e he
  by_cases ht : t = i
  · subst ht; have ha := h3 a hat; have hb := (h.up a (by omega)).2; rw [e0, decide_eq_true ha, decide_eq_true (by show rd x.at_ a + e.f2 ≤ c + 3; omega)]; simp
  · have : (e.f1 != (i : Int)) = true := by simp; omega
    rw [this]; rfl
theorem run_done (f : Nat) (c : Int) (x : PSt) (h : x.left ≤ 0) : runN may n E U H f c x = x := by
  cases f with
  | zero => rfl
  | succ f => rw [runN, if_neg (by omega)]
theorem run_ends (hf : PFine may n E) : ∀ (m : Nat) (c : Int) (x : PSt), PGood n (c - 1) x → 0 ≤ c → x.left ≤ m → ∀ f, 4 * m ≤ f → (runN may n E U H f c x).left = 0 ∧ PGood n (c - 1 + 4 * m) (runN may n E U H f c x)
  | 0, c, x, h, hc, hl, f, hk => by
    rw [run_done f c x (by omega)]
    exact ⟨by have := h.left; omega, h.later (by omega)⟩
  | m + 1, c, x, h, hc, hl, f, hk => by
    have fin : ∀ (g : Nat) (d : Int) (y : PSt), d ≤ c + 4 → y.left ≤ 0 → PGood n (d - 1) y → (runN may n E U H g d y).left = 0 ∧ PGood n (c - 1 + 4 * ((m + 1 : Nat) : Int)) (runN may n E U H g d y) := by
      intro g d y hd hy hg; rw [run_done g d y hy]; exact ⟨by have := hg.left; omega, hg.later (by omega)⟩
    by_cases h0 : 0 < x.left
    · obtain ⟨f, rfl⟩ : ∃ g, f = g + 1 + 1 + 1 + 1 := ⟨f - 4, by omega⟩
      have g1 : PGood n (c + 1 - 1) (cycStep may n E U H x c) := by rw [Int.add_sub_cancel]; exact cyc_good (h.later (by omega)) hc
      have g2 : PGood n (c + 1 + 1 - 1) (cycStep may n E U H (cycStep may n E U H x c) (c + 1)) := by rw [Int.add_sub_cancel]; exact cyc_good (g1.later (by omega)) (by omega)
      have g3 : PGood n (c + 1 + 1 + 1 - 1) (cycStep may n E U H (cycStep may n E U H (cycStep may n E U H x c) (c + 1)) (c + 1 + 1)) := by rw [Int.add_sub_cancel]; exact cyc_good (g2.later (by omega)) (by omega)
      have g4 : PGood n (c + 1 + 1 + 1 + 1 - 1) (cycStep may n E U H (cycStep may n E U H (cycStep may n E U H (cycStep may n E U H x c) (c + 1)) (c + 1 + 1)) (c + 1 + 1 + 1)) := by rw [Int.add_sub_cancel]; exact cyc_good (g3.later (by omega)) (by omega)
      have hless := four_less (U := U) (H := H) hf h h0; rw [show c + 3 = c + 1 + 1 + 1 by omega, show c + 2 = c + 1 + 1 by omega] at hless; rw [runN, if_pos h0, runN]; split
      · rw [runN]; split
        · rw [runN]; split
          · have := run_ends hf m (c + 1 + 1 + 1 + 1) _ g4 (by omega) (by omega) f (by omega); exact ⟨this.1, this.2.later (by omega)⟩
          · rename_i h5
            have := fin f (c + 1 + 1 + 1) _ (by omega) (by omega) g3; rw [run_done f (c + 1 + 1 + 1) _ (by omega)] at this; exact this
        · rename_i h5
          have := fin f (c + 1 + 1) _ (by omega) (by omega) g2; rw [run_done f (c + 1 + 1) _ (by omega)] at this; exact this
      · rename_i h5
        have := fin f (c + 1) _ (by omega) (by omega) g1; rw [run_done f (c + 1) _ (by omega)] at this; exact this
    · exact fin f c x (by omega) (by omega) h
end
section
open Go.RowKit Go.Proofs.YtibfkkjkahpobaaW.PrintWords Go.Proofs.YtibfkkjkahpobaaW.PrintLast
section
variable {P : Program} {ops : Array Oper} {Q : Exit → Act → World → Prop} {md : Region.Mode} {S : World → Prop} {ds : List Nat}
def SqOn (P : Program) (ops : Array Oper) (S : World → Prop) (K : Act → Prop) : List (Nat × Option Tmp × Bool) → Act → Prop
  | [], a => K a
  | (i, N, r) :: is, a => ∃ oi v, ops[i]? = some oi ∧ oi.dst = N ∧ (if r = true then YieldsIf P ops S oi v a else Yields P ops oi v a) ∧ SqOn P ops S K is (a.put N v)
theorem SqOn.nil {K : Act → Prop} {a : Act} (h : K a) : SqOn P ops S K [] a := h
theorem SqOn.pure {K : Act → Prop} {i : Nat} {N : Option Tmp} {is : List (Nat × Option Tmp × Bool)} {a a' : Act} {oi : Oper} {v : Value} (hi : ops[i]? = some oi) (hN : oi.dst = N) (hy : Yields P ops oi v a) (ha : a.put N v = a') (h : SqOn P ops S K is a') : SqOn P ops S K ((i, N, false) :: is) a := by
  subst ha; exact ⟨oi, v, hi, hN, hy, h⟩
theorem SqOn.take {K : Act → Prop} {i : Nat} {N : Option Tmp} {is : List (Nat × Option Tmp × Bool)} {a a' : Act} {oi : Oper} {v : Value} (hi : ops[i]? = some oi) (hN : oi.dst = N) (hy : YieldsIf P ops S oi v a) (ha : a.put N v = a') (h : SqOn P ops S K is a') : SqOn P ops S K ((i, N, true) :: is) a := by
  subst ha; exact ⟨oi, v, hi, hN, hy, h⟩
def sqB (md : Region.Mode) (ops : Array Oper) (ds : List Nat) : List (Nat × Option Tmp × Bool) → Array Bool → Array Bool → Bool
  | [], l, l' => l == l'
  | (i, _, r) :: is, l, l' => (if r = true then takeB md ops ds l (l.setIfInBounds i true) i else anyB md ops l (l.setIfInBounds i true) i) && sqB md ops ds is (l.setIfInBounds i true) l'
theorem sq_ {k n : Nat} {l : Array Bool} {a : Act} {w : World} (is : List (Nat × Option Tmp × Bool)) (l' : Array Bool) (hn : n = k + is.length) (hc : sqB md ops ds is l l' = true)
    (hQ0 : ∀ t v c a w, Q (.panic c) (a.put (some t) v) w → Q (.panic c) a w) (hS : S w) (h : SqOn P ops S (fun a => wpAnyLast P md ops Q S ds k l' a w) is a) : wpAnyLast P md ops Q S ds n l a w := by
  have hQ : ∀ d v c a w, Q (.panic c) (a.put d v) w → Q (.panic c) a w := fun d v => by
    cases d with
    | none => exact fun _ _ _ h => h
    | some t => exact hQ0 t v
  subst hn
  induction is generalizing l a with
  | nil =>
    obtain rfl : l = l' := by simpa [sqB] using hc
    exact h
  | cons i is ih =>
    obtain ⟨i, N, r⟩ := i; obtain ⟨oi, v, ho, hN, hy, h⟩ := h; subst hN; simp only [sqB, Bool.and_eq_true] at hc
    cases r with
    | false =>
      rw [if_neg (by decide)] at hy; refine pure_ (fuel := k + is.length) (v := v) (a' := a.put oi.dst v) (l.setIfInBounds i true) ho rfl (by simpa using hc.1) (fun c a w => hQ _ _ c a w) hy rfl ?_
      exact ih hc.2 h
    | true =>
      rw [if_pos rfl] at hy; refine take_ (fuel := k + is.length) (v := v) (a' := a.put oi.dst v) (l.setIfInBounds i true) ho rfl (by simpa using hc.1) (fun c a w => hQ _ _ c a w) hy hS rfl ?_; exact ih hc.2 h
def sqT (T : Bool × List (List Nat × List Nat)) (B ds : List Nat) : List (Nat × Option Tmp × Bool) → List Bool → List Bool → Bool
  | [], l, l' => l == l'
  | (i, _, r) :: is, l, l' => (if r = true then takeW T B ds l (l.set i true) i else anyT T l (l.set i true) i) && sqT T B ds is (l.set i true) l'
theorem sq_of {T : Bool × List (List Nat × List Nat)} {B : List Nat} (hT : rtab md ops = T) (hB : waitsOk T.2 B = true) : ∀ {is : List (Nat × Option Tmp × Bool)} {l l' : Array Bool}, sqT T B ds is l.toList l'.toList = true → sqB md ops ds is l l' = true
  | [], l, l', h => by
    simp only [sqT, beq_iff_eq] at h; simp only [sqB, beq_iff_eq]
    exact Array.toList_inj.1 h
  | (i, _, r) :: is, l, l', h => by
    simp only [sqT, Bool.and_eq_true] at h; simp only [sqB, Bool.and_eq_true]; have e : (l.setIfInBounds i true).toList = l.toList.set i true := by simp
    refine ⟨?_, sq_of hT hB (by rw [e]; exact h.2)⟩
    cases r with
    | false => exact any_of hT (by rw [e]; simpa using h.1)
    | true => exact take_ofW hT hB (by rw [e]; simpa using h.1)
end
end
section
attribute [local go_sem] Oper.semAt_some
def waitsE (a : List Int) (c : Int) (e : S51) : Bool := decide (rd a e.f0 < 0) || decide (wrap64 (c - rd a e.f0) < e.f2)
theorem ready1_calls (p q g : Nat) (cs : Array Value) (Aat : Option Addr) (n cat : Nat) (at_ : List Int) (c : Int) (e : S51) (w : World) (hp : w.heap[p]? = some (.cells #[.pointer (some ⟨g, 0, none⟩)] 98 (0, 0))) (hq : w.heap[q]? = some (.cells #[.int .i64 c] 3 (0, 0)))
    (hg : w.heap[g]? = some (.cells cs 102 (0, 0))) (h4 : cs[4]? = some (.slice Aat n cat)) (hat : Kd.C (Kd.int .i64) w Aat n at_) (h0 : 0 ≤ e.f0) (h1 : e.f0 < n) :
    Calls Try.prog 128 #[.agg #[.int .i64 e.f0, .int .i64 e.f1, .int .i64 e.f2], .pointer (some ⟨p, 0, none⟩), .pointer (some ⟨q, 0, none⟩)] w fun x w' => x = .returned (.bool (waitsE at_ c e)) ∧ Below w.heap.size w w' := by
  have hu51 := Try.underlying51; obtain ⟨ad, e1, hx⟩ := Kd.at_int hat e.f0 h0 h1; subst e1; have p0 : (0 ≤ e.f0) = True := eq_true h0; have q0 : (e.f0 < (n : Int)) = True := eq_true h1; have HP := aM_ hp; have HQ := aM_ hq; have HG := aM_ hg; have HB := aM_ (Below.refl w.heap.size w); have H4 := aM_ h4; clear hp hq hg h4 hat h0 h1; go_enter Try.func128, Try.ntmps128
  go_wp2_with (first | ((with_reducible refine gate_dst (N := 3) rfl ?_); refine bX_ (N := 3) (cs := #[.int .i64 e.f0, .int .i64 e.f1, .int .i64 e.f2]) (t := 51) ?_; intro g3 hg w3 hbox hb; have z0 : w3.cell? ⟨g3, 0, none⟩ = some (.int .i64 e.f0) := (bC_ hbox 0).trans rfl; have z1 : w3.cell? ⟨g3, 1, none⟩ = some (.int .i64 e.f1) := (bC_ hbox 1).trans rfl; have z2 : w3.cell? ⟨g3, 2, none⟩ = some (.int .i64 e.f2) := (bC_ hbox 2).trans rfl; have x0 : w3.cell? ⟨p, 0, none⟩ = some (.pointer (some ⟨g, 0, none⟩)) := (bC_ (kB_ HP.out hb) 0).trans rfl; have x1 : w3.cell? ⟨q, 0, none⟩ = some (.int .i64 c) := (bC_ (kB_ HQ.out hb) 0).trans rfl; have x4 := (bC_ (kB_ HG.out hb) 4).trans H4.out; have hx1 := pw_cell_below hb hx; have HB1 := aM_ hb; clear hbox hg hb hx; clear HP HQ HG H4))
  by_cases hc : rd at_ e.f0 < 0
  · replace hc := eq_true hc
    go_region
    go_wp2; go_ret; exact ⟨by simp [waitsE, hc], HB1.out.trans (b1_ (Below.refl _ _))⟩
  · replace hc := eq_false hc
    go_region
    go_wp2; go_ret; exact ⟨by simp [waitsE, hc], HB1.out.trans (b1_ (Below.refl _ _))⟩
theorem idx130_calls (p q g : Nat) (cs : Array Value) (Aat : Option Addr) (n cat : Nat) (at_ : List Int) (c : Int) (A : Option Addr) (cE : Nat) (E : List S51) (w : World) (hE : Kd.C k51 w A E.length E) (hp : w.heap[p]? = some (.cells #[.pointer (some ⟨g, 0, none⟩)] 98 (0, 0))) (hq : w.heap[q]? = some (.cells #[.int .i64 c] 3 (0, 0)))
    (hg : w.heap[g]? = some (.cells cs 102 (0, 0))) (h4 : cs[4]? = some (.slice Aat n cat)) (hat : Kd.C (Kd.int .i64) w Aat n at_) (hin : ∀ j : Nat, j < E.length → 0 ≤ (J51 E j).f0 ∧ (J51 E j).f0 < n) :
    Calls Try.prog 130 #[.slice A E.length cE, .func (.func 128) #[] #[.pointer (some ⟨p, 0, none⟩), .pointer (some ⟨q, 0, none⟩)]] w fun x w' => (∃ r : Int, x = .returned (.int .i64 r) ∧ decide (r ≥ 0) = E.any (waitsE at_ c)) ∧ Below w.heap.size w w' := by
  have hu31 := Try.underlying31; have hu51 := Try.underlying51; have hmax := Kd.C_max hE; have HP := aM_ hp; have HQ := aM_ hq; have HG := aM_ hg; have H4 := aM_ h4; have HA := aM_ hat; have HE := aM_ hE; have HI := aM_ hin; clear hp hq hg h4 hat hE hin; go_enter Try.func130, Try.ntmps130; go_wp2
  go_loopw [8] (fun i wr => ∃ j : Nat, j ≤ E.length ∧ i = .int .i64 j ∧ As_ ((E.take j).any (waitsE at_ c) = false) ∧ As_ (Below w.heap.size w wr)) (fun i _ => ((E.length : Int) - intOf i).toNat)
  case atStart => exact ⟨0, Nat.zero_le _, rfl, ⟨by simp⟩, ⟨Below.refl _ _⟩⟩
  case round =>
    obtain ⟨j, hj, rfl, HN, HB⟩ := hrel
    by_cases hlt : j < E.length
    · obtain ⟨ad, e1, hx0, hx1, hx2⟩ := at_T51 HE.out (j : Int) (Int.natCast_nonneg _) (by omega); subst e1; have hw := (Kd.C_below HE.out HB.out)
      replace hx0 := hC_ HB hx0; replace hx1 := hC_ HB hx1; replace hx2 := hC_ HB hx2; clear hw; have p1 : ((0 : Int) ≤ (j : Int)) = True := eq_true (Int.natCast_nonneg _); have q1 : ((j : Int) < (E.length : Int)) = True := eq_true (by omega); have hi := HI.out j hlt; rw [Int.toNat_natCast] at hx0 hx1 hx2; have hw2 : wrap64 ((j : Int) + 1) = ((j + 1 : Nat) : Int) := by unfold wrap64; omega
      have hsnoc : (E.take (j + 1)).any (waitsE at_ c) = ((E.take j).any (waitsE at_ c) || waitsE at_ c (J51 E j)) := by
        rw [rd51_at E j hlt, List.take_succ_eq_append_getElem hlt, List.any_append]; simp
      have hall : waitsE at_ c (J51 E j) = true → E.any (waitsE at_ c) = true := fun h => by
        rw [List.any_eq_true]; exact ⟨E[j], List.getElem_mem hlt, by rwa [rd51_at E j hlt] at h⟩
      have HS := aM_ hsnoc; have HL := aM_ hall; clear hsnoc hall
      go_wp2_with (go_at_call 128; refine (ready1_calls p q g cs Aat n cat at_ c (J51 E j) _ ?s1 ?s2 ?s3 H4.out ?s4 hi.1 hi.2).mono ?_; (case s1 => exact kB_ HP.out (by repeat (first | exact HB.out | apply b1_))); (case s2 => exact kB_ HQ.out (by repeat (first | exact HB.out | apply b1_))); (case s3 => exact kB_ HG.out (by repeat (first | exact HB.out | apply b1_))); (case s4 => exact Kd.C_below HA.out (by repeat (first | exact HB.out | apply b1_))); rintro e w' ⟨rfl, hb⟩; have HB1 := aM_ hb; clear hb; cases hwt : waitsE at_ c (J51 E j))
      · refine ⟨⟨j + 1, by omega, by congr 1, ⟨by rw [HS.out, HN.out, hwt]; rfl⟩, ⟨HB.out.trans (HB1.out.mono HB.out.size)⟩⟩, ?_⟩; simp [intOf]; omega
      · go_ret; exact ⟨⟨_, rfl, by rw [HL.out hwt]; simp⟩, HB.out.trans (HB1.out.mono HB.out.size)⟩
    · obtain rfl : j = E.length := by omega
      have q1 : ((E.length : Int) < (E.length : Int)) = False := eq_false (by omega); go_wp2; go_ret; exact ⟨⟨_, rfl, by rw [← List.take_length (l := E)]; simpa using HN.out⟩, HB.out⟩
theorem has129_calls (p q g : Nat) (cs : Array Value) (Aat : Option Addr) (n cat : Nat) (at_ : List Int) (c : Int) (A : Option Addr) (cE : Nat) (E : List S51) (w : World) (hE : Kd.C k51 w A E.length E) (hp : w.heap[p]? = some (.cells #[.pointer (some ⟨g, 0, none⟩)] 98 (0, 0))) (hq : w.heap[q]? = some (.cells #[.int .i64 c] 3 (0, 0)))
    (hg : w.heap[g]? = some (.cells cs 102 (0, 0))) (h4 : cs[4]? = some (.slice Aat n cat)) (hat : Kd.C (Kd.int .i64) w Aat n at_) (hin : ∀ j : Nat, j < E.length → 0 ≤ (J51 E j).f0 ∧ (J51 E j).f0 < n) :
    Calls Try.prog 129 #[.slice A E.length cE, .func (.func 128) #[] #[.pointer (some ⟨p, 0, none⟩), .pointer (some ⟨q, 0, none⟩)]] w fun x w' => x = .returned (.bool (E.any (waitsE at_ c))) ∧ Below w.heap.size w w' := by
  have HX := aM_ (idx130_calls p q g cs Aat n cat at_ c A cE E w hE hp hq hg h4 hat hin); clear hp hq hg h4 hat hin hE; go_enter Try.func129, Try.ntmps129
  go_wp2_with (go_at_call 130; refine HX.out.mono ?_; rintro e w' ⟨⟨r, rfl, hr⟩, hb⟩; have HB := aM_ hb; have HR := aM_ hr; clear hb hr)
  go_ret; exact ⟨by rw [← HR.out]; rfl, HB.out⟩
def rd_L51 (xs : List (List S51)) (i : Int) : List S51 := xs.getD i.toNat []
theorem at_L51 {w : World} {A : Option Addr} {n : Nat} {xs : List (List S51)} (h : Kd.C (Kd.slice 51 k51) w A n xs) (i : Int) (h0 : 0 ≤ i) (h1 : i < n) : ∃ ad A0 c0, A = some ad ∧ w.cell? (ad.add i.toNat) = some (.slice A0 (rd_L51 xs i).length c0) ∧ (rd_L51 xs i).length ≤ c0 ∧ k51.C w A0 (rd_L51 xs i).length (rd_L51 xs i) := by
  obtain ⟨ad, c, e, _, hK, hc0⟩ := Kd.C_get h ([] : List S51) i h0 h1; have hc : ∀ j u, c[j]? = some u → w.cell? (ad.add (i.toNat * 1 + j)) = some u := hc0; obtain ⟨A0, c0, rfl, l0, g0⟩ := hK; exact ⟨ad, A0, c0, e, by have hq := hc 0 _ rfl; rwa [Nat.mul_one, Nat.add_zero] at hq, l0, g0⟩
def readyP (AH : List (List S51)) (a : List Int) (i : Nat) (c : Int) : Bool := decide (rd a i < 0) && !((rd_L51 AH i).any (waitsE a c))
theorem ready_calls (g : Nat) (cs : Array Value) (Aat Aah : Option Addr) (n cat cah : Nat) (at_ : List Int) (AH : List (List S51)) (i : Nat) (c : Int) (w : World) (hg : w.heap[g]? = some (.cells cs 102 (0, 0))) (h1 : cs[1]? = some (.slice Aah n cah)) (h4 : cs[4]? = some (.slice Aat n cat))
    (hat : Kd.C (Kd.int .i64) w Aat n at_) (hah : Kd.C (Kd.slice 51 k51) w Aah n AH) (hi : i < n) (hin : ∀ j : Nat, j < (rd_L51 AH i).length → 0 ≤ (J51 (rd_L51 AH i) j).f0 ∧ (J51 (rd_L51 AH i) j).f0 < n) :
    Calls Try.prog 123 #[.pointer (some ⟨g, 0, none⟩), .int .i64 i, .int .i64 c] w fun x w' => x = .returned (.bool (readyP AH at_ i c)) ∧ Below w.heap.size w w' := by
  obtain ⟨ad, e1, hx⟩ := Kd.at_int hat (i : Int) (Int.natCast_nonneg _) (by omega); obtain ⟨ad2, A2, c2, e2, hy, hl2, hC2⟩ := at_L51 hah (i : Int) (Int.natCast_nonneg _) (by omega); subst e1; subst e2; rw [Int.toNat_natCast] at hx hy; have p0 : ((0 : Int) ≤ (i : Int)) = True := eq_true (Int.natCast_nonneg _); have q0 : ((i : Int) < (n : Int)) = True := eq_true (by omega); have HG := aM_ hg; have H4 := aM_ h4; have H1 := aM_ h1; have HA := aM_ hat; have HC := aM_ hC2; have HI := aM_ hin; have HX := aM_ hx; have HY := aM_ hy; clear hg h4 h1 hat hah hC2 hin hx hy hl2; go_enter Try.func123, Try.ntmps123
  go_wp2_with (first | ((with_reducible refine gate_dst (N := 3) rfl ?_); refine bX_ (N := 3) (cs := #[.pointer (some ⟨g, 0, none⟩)]) (t := 98) ?_; intro p hp w3 hbox hb; have HP := aM_ hbox; have HB1 := aM_ hb; clear hbox hb hp) | ((with_reducible refine gate_dst (N := 5) rfl ?_); refine bX_ (N := 5) (cs := #[.int .i64 c]) (t := 3) ?_; intro q hq w4 hbox hb; have HQ := aM_ hbox; have HB2 := aM_ hb; have x0 : w4.cell? ⟨p, 0, none⟩ = some (.pointer (some ⟨g, 0, none⟩)) := (bC_ (kB_ HP.out hb) 0).trans rfl; have HG4 := aM_ (kB_ (kB_ HG.out HB1.out) hb); have x4 : w4.cell? ⟨g, 4, none⟩ = some (.slice (some ad) n cat) := (bC_ HG4.out 4).trans H4.out; have x1 : w4.cell? ⟨g, 1, none⟩ = some (.slice (some ad2) n cah) := (bC_ HG4.out 1).trans H1.out; have HB3 := aM_ (HB1.out.trans (hb.mono HB1.out.size)); have hx := pw_cell_below HB3.out HX.out; have hy := pw_cell_below HB3.out HY.out; clear hbox hb hq) | (go_at_call 129; refine (has129_calls p q g cs (some ad) n cat at_ c A2 c2 (rd_L51 AH i) _ (Kd.C_below HC.out HB3.out) (kB_ HP.out HB2.out) HQ.out HG4.out H4.out (Kd.C_below HA.out HB3.out) HI.out).mono ?_; rintro e w' ⟨rfl, hb⟩; have HB5 := aM_ hb; clear hb))
  · go_ret; refine ⟨?_, HB3.out.trans (HB5.out.mono HB3.out.size)⟩; unfold readyP; simp_all
  · go_ret; refine ⟨?_, HB3.out⟩; unfold readyP; simp_all; intro h; omega
def best108.T6 : Bool × List (List Nat × List Nat) := (true, [([], []), ([0], [0]), ([1], [1]), ([2], [2]), ([3, 2], [2, 3]), ([4, 2], [2, 4]), ([5, 2], [2, 5]), ([2], [2]), ([6, 7, 2], [2, 6, 7]), ([8, 2], [2, 8]), ([2], [2]), ([10, 2], [2, 10]), ([11, 2], [2, 11]), ([12, 2], [2, 12]), ([2], [2]), ([13, 14, 2], [2, 13, 14]), ([15, 2], [2, 15]), ([9, 16, 2], [2, 9, 16]), ([2, 17], [2, 17]), ([18, 2], [18]), ([19], [19]), ([20, 19], [19, 20]), ([21, 19], [19, 21]), ([22, 19], [19, 22]), ([19], [19]), ([23, 24, 19], [19, 23, 24]), ([25, 19], [19, 25]), ([19], [19]), ([27, 19], [19, 27]), ([28, 19], [19, 28]), ([29, 19], [19, 29]), ([19], [19]), ([30, 31, 19], [19, 30, 31]), ([32, 19], [19, 32]), ([26, 33, 19], [19, 26, 33]), ([34, 19, 19], [19, 34]), ([35], [35]), ([36, 35], [35, 36]), ([37, 35], [35, 37]), ([38, 35], [35, 38]), ([35], [35]), ([39, 40, 35], [35, 39, 40]), ([41, 35], [35, 41]), ([35], [35]), ([43, 35], [35, 43]), ([44, 35], [35, 44]), ([45, 35], [35, 45]), ([35], [35]), ([46, 47, 35], [35, 46, 47]), ([48, 35], [35, 48]), ([42, 49, 35], [35, 42, 49]), ([35, 50, 19], [19, 35, 50]), ([19, 51], [19, 51])])
def best108.B6 : List Nat := [0, 1, 3, 7, 15, 31, 63, 7, 255, 511, 7, 1031, 3079, 7175, 7, 31751, 64519, 131071, 262143, 524287, 1048575, 2097151, 4194303, 8388607, 1048575, 33554431, 67108863, 1048575, 135266303, 403701759, 940572671, 1048575, 4161798143, 8456765439, 17179869183, 34359738367, 68719476735, 137438953471, 274877906943, 549755813887, 68719476735, 2199023255551, 4398046511103, 68719476735, 8864812498943, 26456998543359, 61641370632191, 68719476735, 272747603165183, 554222579875839, 1125899906842623, 2251799813685247, 4503599627370495]
theorem best108.tab6 : rtab .any (opsOf Try.f108 6) = best108.T6 := by kernel_rfl
theorem best108.bits6 : waitsOk best108.T6.2 best108.B6 = true := by kernel_rfl
theorem best_calls (g : Nat) (cs : Array Value) (Al Aah Au Ah Aat : Option Addr) (cl cah cu ch cat : Nat) (l : List S24) (AH : List (List S51)) (U H at_ : List Int) (c s : Int) (may : Nat → Bool) (w : World)
    (hg : w.heap[g]? = some (.cells cs 102 (0, 0))) (h0 : cs[0]? = some (.slice Al l.length cl)) (h1 : cs[1]? = some (.slice Aah l.length cah)) (h2 : cs[2]? = some (.slice Au l.length cu)) (h3 : cs[3]? = some (.slice Ah l.length ch)) (h4 : cs[4]? = some (.slice Aat l.length cat))
    (hl : Kd.C k24 w Al l.length l) (hah : Kd.C (Kd.slice 51 k51) w Aah l.length AH) (hu : Kd.C (Kd.int .i64) w Au l.length U) (hh : Kd.C (Kd.int .i64) w Ah l.length H) (hat : Kd.C (Kd.int .i64) w Aat l.length at_)
    (hin : ∀ i : Nat, i < l.length → ∀ j : Nat, j < (rd_L51 AH i).length → 0 ≤ (J51 (rd_L51 AH i) j).f0 ∧ (J51 (rd_L51 AH i) j).f0 < l.length)
    (hmay : ∀ j : Nat, j < l.length → ∀ W, Calls Try.prog 87 #[.int .i64 (J24 l j).f0, .int .i64 s] W fun e W' => e = .returned (.bool (may j)) ∧ Dr_ W W') (hmx : l.length ≤ 1000000) :
    Calls Try.prog 108 #[.pointer (some ⟨g, 0, none⟩), .int .i64 c, .int .i64 s] w fun x w' => x = .returned (.int .i64 (bestUp (fun i => may i && readyP AH at_ i c) U H l.length)) ∧ Below w.heap.size w w' := by
  have hu24 := Try.underlying24; have HG := aM_ hg; have H0 := aM_ h0; have H1 := aM_ h1; have H2 := aM_ h2; have H3 := aM_ h3; have H4 := aM_ h4; have HL := aM_ hl; have HH := aM_ hah; have HU := aM_ hu; have HE := aM_ hh; have HA := aM_ hat; have HI := aM_ hin; have HM := aM_ hmay; have x0 : w.cell? ⟨g, 0, none⟩ = some (.slice Al l.length cl) := (bC_ HG.out 0).trans H0.out; clear hg h0 h1 h2 h3 h4 hl hah hu hh hat hin hmay; go_enter Try.func108, Try.ntmps108; go_wp2
  go_loopw [7, 15] (fun b i wr => ∃ j : Nat, j ≤ l.length ∧ i = .int .i64 j ∧ b = .int .i64 (bestUp (fun i => may i && readyP AH at_ i c) U H j) ∧ As_ (Below w.heap.size w wr)) (fun _ i _ => l.length - (intOf i).toNat)
  case atStart => exact ⟨0, Nat.zero_le _, rfl, rfl, ⟨Below.refl _ _⟩⟩
  case round =>
    obtain ⟨j, hj, rfl, rfl, HB⟩ := hrel
    by_cases hlt : j < l.length
    · obtain ⟨ad, e1, hx0, hx1, hx2, hx3, hx4, hx5⟩ := at_T24 HL.out (j : Int) (Int.natCast_nonneg _) (by omega); subst e1; rw [Int.toNat_natCast] at hx0 hx1 hx2 hx3 hx4 hx5; replace hx0 := hC_ HB hx0; replace hx1 := hC_ HB hx1; replace hx2 := hC_ HB hx2; replace hx3 := hC_ HB hx3; replace hx4 := hC_ HB hx4; replace hx5 := hC_ HB hx5; have p1 : ((0 : Int) ≤ (j : Int)) = True := eq_true (Int.natCast_nonneg _); have q1 : ((j : Int) < (l.length : Int)) = True := eq_true (by omega); have q2 : (j < l.length) = True := eq_true hlt; have hw2 : wrap64 ((j : Int) + 1) = ((j + 1 : Nat) : Int) := by unfold wrap64; omega
      have bx : (wr.alloc (.cells #[.int .i64 0, .int .i64 0, .int .i64 0, .int .i64 0, .int .i64 0, .string (⟨#[]⟩ : ByteArray)] 24)).heap[wr.heap.size]? = some (.cells #[.int .i64 0, .int .i64 0, .int .i64 0, .int .i64 0, .int .i64 0, .string (⟨#[]⟩ : ByteArray)] 24 (0, 0)) := blk_new wr _; have z0 := (bC_ bx 0).trans rfl; have z1 := (bC_ bx 1).trans rfl; have z2 := (bC_ bx 2).trans rfl; have z3 := (bC_ bx 3).trans rfl; have z4 := (bC_ bx 4).trans rfl; have z5 := (bC_ bx 5).trans rfl; have y0 := bZ_ bx 0; have y1 := bZ_ bx 1; have y2 := bZ_ bx 2; have y3 := bZ_ bx 3; have y4 := bZ_ bx 4; have y5 := bZ_ bx 5; clear bx
      go_wp2_with fail
      have bx := blk_new wr (.cells #[.int .i64 (J24 l (j : Int)).f0, .int .i64 (J24 l (j : Int)).f1, .int .i64 (J24 l (j : Int)).f2, .int .i64 (J24 l (j : Int)).f3, .int .i64 (J24 l (j : Int)).f4, .string (J24 l (j : Int)).f5] 24 (0, 0)); have HB7 := aM_ (HB.out.alloc HB.out.size (.cells #[.int .i64 (J24 l (j : Int)).f0, .int .i64 (J24 l (j : Int)).f1, .int .i64 (J24 l (j : Int)).f2, .int .i64 (J24 l (j : Int)).f3, .int .i64 (J24 l (j : Int)).f4, .string (J24 l (j : Int)).f5] 24 (0, 0))); generalize hW7 : wr.alloc (.cells #[.int .i64 (J24 l (j : Int)).f0, .int .i64 (J24 l (j : Int)).f1, .int .i64 (J24 l (j : Int)).f2, .int .i64 (J24 l (j : Int)).f3, .int .i64 (J24 l (j : Int)).f4, .string (J24 l (j : Int)).f5] 24 (0, 0)) = W7 at bx HB7 ⊢; clear hW7 z0 z1 z2 z3 z4 z5 y0 y1 y2 y3 y4 y5 hx0 hx1 hx2 hx3 hx4 hx5 HB; have t0 : W7.cell? ⟨wr.heap.size, 0, none⟩ = some (.int .i64 (J24 l (j : Int)).f0) := (bC_ bx 0).trans rfl; clear bx; have hc := HM.out j hlt W7; have HR := aM_ (ready_calls g cs Aat Aah l.length cat cah at_ AH j c)
      cases hm : may j with
      | false =>
        rw [hm] at hc; have HC := aM_ hc; clear hc
        have HN : bestUp (fun i => may i && readyP AH at_ i c) U H (j + 1) = bestUp (fun i => may i && readyP AH at_ i c) U H j := by
          rw [bestUp]; simp [hm]
        go_wp2_with (go_at_call 87; refine HC.out.mono ?_; rintro e w' ⟨rfl, ⟨nd, rfl⟩⟩)
        exact ⟨⟨j + 1, by omega, by congr 1, by rw [HN], ⟨bN_ HB7.out nd⟩⟩, by simp [intOf]; omega⟩
      | true =>
        rw [hm] at hc; have HC := aM_ hc; have HR := aM_ (fun nd => ready_calls g cs Aat Aah l.length cat cah at_ AH j c (W7.drewN nd) (((bN_ HB7.out nd).block g (blk_lt HG.out)).trans HG.out) H1.out H4.out (Kd.C_below HA.out (bN_ HB7.out nd)) (Kd.C_below HH.out (bN_ HB7.out nd)) hlt (HI.out j hlt)); clear hc
        cases hr : readyP AH at_ j c with
        | false =>
          rw [hr] at HR
          have HN : bestUp (fun i => may i && readyP AH at_ i c) U H (j + 1) = bestUp (fun i => may i && readyP AH at_ i c) U H j := by
            rw [bestUp]; simp [hr]
          go_wp2_with (first | (go_at_call 87; refine HC.out.mono ?_; rintro e w' ⟨rfl, ⟨nd, rfl⟩⟩) | (go_at_call 123; refine (HR.out _).mono ?_; rintro e w' ⟨rfl, hb⟩; have HB8 := aM_ hb; clear hb))
          exact ⟨⟨j + 1, by omega, by congr 1, by rw [HN], ⟨(bN_ HB7.out nd).trans (HB8.out.mono (bN_ HB7.out nd).size)⟩⟩, by simp [intOf]; omega⟩
        | true =>
          rw [hr] at HR; obtain ⟨au, eu, huj⟩ := Kd.at_int HU.out (j : Int) (Int.natCast_nonneg _) (by omega); obtain ⟨ah, eh, hhj⟩ := Kd.at_int HE.out (j : Int) (Int.natCast_nonneg _) (by omega); subst eu; subst eh; rw [Int.toNat_natCast] at huj hhj; have UJ := aM_ huj; have EJ := aM_ hhj; clear huj hhj
          have hstep : bestUp (fun i => may i && readyP AH at_ i c) U H (j + 1) = if better U H (bestUp (fun i => may i && readyP AH at_ i c) U H j) j = true then (j : Int) else bestUp (fun i => may i && readyP AH at_ i c) U H j := by
            rw [bestUp]; simp [hm, hr]
          have HS := aM_ hstep; clear hstep; rcases bestUp_range (fun i => may i && readyP AH at_ i c) U H j with hneg | ⟨i, hi, hbi, _⟩
          · have hbet : better U H (-1) j = true := by unfold better; simp
            rw [hneg] at HS ⊢
            go_wp2_with (first | (go_at_call 87; refine HC.out.mono ?_; rintro e w' ⟨rfl, ⟨nd, rfl⟩⟩) | (go_at_call 123; refine (HR.out _).mono ?_; rintro e w' ⟨rfl, hb⟩; have HB8 := aM_ ((bN_ HB7.out nd).trans (hb.mono (bN_ HB7.out nd).size)); clear hb; have m2 : w'.cell? ⟨g, 2, none⟩ = some (.slice (some au) l.length cu) := (bC_ ((HB8.out.block g (blk_lt HG.out)).trans HG.out) 2).trans H2.out; have m3 : w'.cell? ⟨g, 3, none⟩ = some (.slice (some ah) l.length ch) := (bC_ ((HB8.out.block g (blk_lt HG.out)).trans HG.out) 3).trans H3.out; have uj := pw_cell_below HB8.out UJ.out; have hj := pw_cell_below HB8.out EJ.out; (try have ui := pw_cell_below HB8.out UI.out); (try have hi_ := pw_cell_below HB8.out EI.out)))
            refine start_ (n := 53) (S := fun w' => True) (ds := []) (bm 53 0) (by kernel_rfl) rfl (by kernel_rfl) trivial (fun hHeld => ?_); refine with_tabW best108.tab6 best108.bits6 (fun HT_ HW_ => ?_); refine sq_ (k := 50) [(0, some 32, false), (1, some 33, false), (2, some 34, false)] (bm 53 7) rfl (sq_of HT_.out HW_.out (by kernel_rfl)) (fun _ _ _ _ _ h => h) hHeld ?_
            repeat (first | (refine SqOn.pure (v := ?_) (a' := ?_) rfl rfl (Or.inl ⟨by kernel_rfl, ?_⟩) ?_ ?_; rotate_left 2; (focus (intro w'; go_simp; with_reducible rfl)); (focus exact pU_)))
            refine SqOn.nil ?_; refine offs_ (k := 35) (a' := ?_) [3, 4, 5, 6, 7, 8, 9, 10, 11, 12, 13, 14, 15, 16, 17] [some 35, some 36, some 37, some 38, some 39, some 40, some 41, some 42, some 43, some 44, some 45, some 46, some 47, some 48, some 49] (bm 53 262143) rfl rfl (off_of HT_.out (by kernel_rfl)) (by kernel_rfl) (fun _ _ _ _ _ h => h) ?_ ?_; rotate_left
            · simp only [undefs, Act.put, List.setIfInBounds_toArray, List.set_cons_zero, List.set_cons_succ]; rfl
            refine sq_ (k := 33) [(18, some 50, false), (19, some 51, false)] (bm 53 1048575) rfl (sq_of HT_.out HW_.out (by kernel_rfl)) (fun _ _ _ _ _ h => h) hHeld ?_
            repeat (first | (refine SqOn.pure (v := ?_) (a' := ?_) rfl rfl (Or.inl ⟨by kernel_rfl, ?_⟩) ?_ ?_; rotate_left 2; (focus (intro w'; go_simp; with_reducible rfl)); (focus exact pU_)))
            refine SqOn.nil ?_; refine offs_ (k := 1) (a' := ?_) [20, 21, 22, 23, 24, 25, 26, 27, 28, 29, 30, 31, 32, 33, 34, 35, 36, 37, 38, 39, 40, 41, 42, 43, 44, 45, 46, 47, 48, 49, 50, 51] [some 52, some 53, some 54, some 55, some 56, some 57, some 58, some 59, some 60, some 61, some 62, some 63, some 64, some 65, some 66, some 67, some 68, some 69, some 70, some 71, some 72, some 73, some 74, some 75, some 76, some 77, some 78, some 79, some 80, some 81, some 82, some 83] (bm 53 4503599627370495) rfl rfl (off_of HT_.out (by kernel_rfl)) (by kernel_rfl) (fun _ _ _ _ _ h => h) ?_ ?_; rotate_left
            · simp only [undefs, Act.put, List.setIfInBounds_toArray, List.set_cons_zero, List.set_cons_succ]; rfl
            refine sq_ (k := 0) [(52, some 84, false)] (bm 53 9007199254740991) rfl (sq_of HT_.out HW_.out (by kernel_rfl)) (fun _ _ _ _ _ h => h) hHeld ?_
            repeat (first | (refine SqOn.pure (v := ?_) (a' := ?_) rfl rfl (Or.inl ⟨by kernel_rfl, ?_⟩) ?_ ?_; rotate_left 2; (focus (intro w'; go_simp; with_reducible rfl)); (focus exact pU_)))
            refine SqOn.nil ?_; refine done_ (done_of HT_.out (by kernel_rfl)) ?_; go_wp2; exact ⟨⟨j + 1, by omega, by congr 1, by rw [HS.out, hbet, if_pos rfl], ⟨by repeat (first | exact HB8.out | apply b1_)⟩⟩, by simp [intOf]; omega⟩
          · obtain ⟨au2, eu2, hui⟩ := Kd.at_int HU.out (i : Int) (Int.natCast_nonneg _) (by omega); obtain ⟨ah2, eh2, hhi⟩ := Kd.at_int HE.out (i : Int) (Int.natCast_nonneg _) (by omega); obtain rfl := Option.some.inj eu2; obtain rfl := Option.some.inj eh2; rw [Int.toNat_natCast] at hui hhi; have UI := aM_ hui; have EI := aM_ hhi; clear hui hhi eu2 eh2; rw [hbi] at HS ⊢; have p2 : ((0 : Int) ≤ (i : Int)) = True := eq_true (Int.natCast_nonneg _); have q3 : ((i : Int) < (l.length : Int)) = True := eq_true (by omega); have q4 : (i < l.length) = True := eq_true (by omega); have n2 : ((i : Int) < 0) = False := eq_false (by omega)
            by_cases hU1 : rd U j < rd U i
            · have hbet : better U H (i : Int) j = true := by unfold better; simp [hU1]
              have c1 : (rd U j < rd U i) = True := eq_true hU1; clear hU1
              go_wp2_with (first | (go_at_call 87; refine HC.out.mono ?_; rintro e w' ⟨rfl, ⟨nd, rfl⟩⟩) | (go_at_call 123; refine (HR.out _).mono ?_; rintro e w' ⟨rfl, hb⟩; have HB8 := aM_ ((bN_ HB7.out nd).trans (hb.mono (bN_ HB7.out nd).size)); clear hb; have m2 : w'.cell? ⟨g, 2, none⟩ = some (.slice (some au) l.length cu) := (bC_ ((HB8.out.block g (blk_lt HG.out)).trans HG.out) 2).trans H2.out; have m3 : w'.cell? ⟨g, 3, none⟩ = some (.slice (some ah) l.length ch) := (bC_ ((HB8.out.block g (blk_lt HG.out)).trans HG.out) 3).trans H3.out; have uj := pw_cell_below HB8.out UJ.out; have hj := pw_cell_below HB8.out EJ.out; (try have ui := pw_cell_below HB8.out UI.out); (try have hi_ := pw_cell_below HB8.out EI.out)))
              refine start_ (n := 53) (S := fun w' => w'.cell? ⟨g, 2, none⟩ = some (.slice (some au) l.length cu) ∧ w'.cell? (au.add j) = some (.int .i64 (rd U (j : Int))) ∧ w'.cell? (au.add i) = some (.int .i64 (rd U (i : Int)))) (ds := []) (bm 53 0) (by kernel_rfl) rfl (by kernel_rfl) ⟨m2, uj, ui⟩ (fun hHeld => ?_); refine with_tabW best108.tab6 best108.bits6 (fun HT_ HW_ => ?_); refine sq_ (k := 33) [(0, some 32, false), (1, some 33, false), (2, some 34, false), (3, some 35, false), (4, some 36, false), (5, some 37, false), (7, some 39, false), (10, some 42, false), (11, some 43, false), (12, some 44, false), (14, some 46, false), (6, some 38, true), (8, some 40, false), (9, some 41, true), (13, some 45, true), (15, some 47, false), (16, some 48, true), (17, some 49, false), (18, some 50, false), (19, some 51, false)] (bm 53 1048575) rfl (sq_of HT_.out HW_.out (by kernel_rfl)) (fun _ _ _ _ _ h => h) hHeld ?_
              repeat (first | (refine SqOn.pure (v := ?_) (a' := ?_) rfl rfl (Or.inl ⟨by kernel_rfl, ?_⟩) ?_ ?_; rotate_left 2; (focus (intro w'; go_simp; with_reducible rfl)); (focus exact pU_)) | (refine SqOn.take (v := ?_) (a' := ?_) rfl rfl (Or.inl ⟨by kernel_rfl, ?_⟩) ?_ ?_; rotate_left 2; (focus (rintro w' ⟨s0, s1, s2⟩; go_simp; with_reducible rfl)); (focus exact pU_)))
              refine SqOn.nil ?_; refine offs_ (k := 1) (a' := ?_) [20, 21, 22, 23, 24, 25, 26, 27, 28, 29, 30, 31, 32, 33, 34, 35, 36, 37, 38, 39, 40, 41, 42, 43, 44, 45, 46, 47, 48, 49, 50, 51] [some 52, some 53, some 54, some 55, some 56, some 57, some 58, some 59, some 60, some 61, some 62, some 63, some 64, some 65, some 66, some 67, some 68, some 69, some 70, some 71, some 72, some 73, some 74, some 75, some 76, some 77, some 78, some 79, some 80, some 81, some 82, some 83] (bm 53 4503599627370495) rfl rfl (off_of HT_.out (by kernel_rfl)) (by kernel_rfl) (fun _ _ _ _ _ h => h) ?_ ?_; rotate_left
              · simp only [undefs, Act.put, List.setIfInBounds_toArray, List.set_cons_zero, List.set_cons_succ]; rfl
              refine sq_ (k := 0) [(52, some 84, false)] (bm 53 9007199254740991) rfl (sq_of HT_.out HW_.out (by kernel_rfl)) (fun _ _ _ _ _ h => h) hHeld ?_
              repeat (first | (refine SqOn.pure (v := ?_) (a' := ?_) rfl rfl (Or.inl ⟨by kernel_rfl, ?_⟩) ?_ ?_; rotate_left 2; (focus (intro w'; go_simp; with_reducible rfl)); (focus exact pU_)))
              refine SqOn.nil ?_; refine done_ (done_of HT_.out (by kernel_rfl)) ?_; go_wp2; exact ⟨⟨j + 1, by omega, by congr 1, by rw [HS.out, hbet, if_pos rfl], ⟨by repeat (first | exact HB8.out | apply b1_)⟩⟩, by simp [intOf]; omega⟩
            · by_cases hU2 : rd U j = rd U i
              · by_cases hH : rd H i < rd H j
                · have hbet : better U H (i : Int) j = true := by unfold better; simp [hU2, hH]
                  have c1 : (rd U j < rd U i) = False := eq_false hU1; have c2 : (rd U j = rd U i) = True := eq_true hU2; have c2b : (rd U j == rd U i) = true := beq_iff_eq.mpr hU2; have c3 : (rd H i < rd H j) = True := eq_true hH; clear hU1 hU2 hH
                  go_wp2_with (first | (go_at_call 87; refine HC.out.mono ?_; rintro e w' ⟨rfl, ⟨nd, rfl⟩⟩) | (go_at_call 123; refine (HR.out _).mono ?_; rintro e w' ⟨rfl, hb⟩; have HB8 := aM_ ((bN_ HB7.out nd).trans (hb.mono (bN_ HB7.out nd).size)); clear hb; have m2 : w'.cell? ⟨g, 2, none⟩ = some (.slice (some au) l.length cu) := (bC_ ((HB8.out.block g (blk_lt HG.out)).trans HG.out) 2).trans H2.out; have m3 : w'.cell? ⟨g, 3, none⟩ = some (.slice (some ah) l.length ch) := (bC_ ((HB8.out.block g (blk_lt HG.out)).trans HG.out) 3).trans H3.out; have uj := pw_cell_below HB8.out UJ.out; have hj := pw_cell_below HB8.out EJ.out; (try have ui := pw_cell_below HB8.out UI.out); (try have hi_ := pw_cell_below HB8.out EI.out)))
                  refine start_ (n := 53) (S := fun w' => w'.cell? ⟨g, 2, none⟩ = some (.slice (some au) l.length cu) ∧ w'.cell? (au.add j) = some (.int .i64 (rd U (j : Int))) ∧ w'.cell? (au.add i) = some (.int .i64 (rd U (i : Int))) ∧ w'.cell? ⟨g, 3, none⟩ = some (.slice (some ah) l.length ch) ∧ w'.cell? (ah.add j) = some (.int .i64 (rd H (j : Int))) ∧ w'.cell? (ah.add i) = some (.int .i64 (rd H (i : Int)))) (ds := []) (bm 53 0) (by kernel_rfl) rfl (by kernel_rfl) ⟨m2, uj, ui, m3, hj, hi_⟩ (fun hHeld => ?_); refine with_tabW best108.tab6 best108.bits6 (fun HT_ HW_ => ?_); refine sq_ (k := 0) [(0, some 32, false), (1, some 33, false), (2, some 34, false), (3, some 35, false), (4, some 36, false), (5, some 37, false), (7, some 39, false), (10, some 42, false), (11, some 43, false), (12, some 44, false), (14, some 46, false), (6, some 38, true), (8, some 40, false), (9, some 41, true), (13, some 45, true), (15, some 47, false), (16, some 48, true), (17, some 49, false), (18, some 50, false), (19, some 51, false), (20, some 52, false), (21, some 53, false), (22, some 54, false), (24, some 56, false), (27, some 59, false), (28, some 60, false), (29, some 61, false), (31, some 63, false), (23, some 55, true), (25, some 57, false), (26, some 58, true), (30, some 62, true), (32, some 64, false), (33, some 65, true), (34, some 66, false), (35, some 67, false), (36, some 68, false), (37, some 69, false), (38, some 70, false), (40, some 72, false), (43, some 75, false), (44, some 76, false), (45, some 77, false), (47, some 79, false), (39, some 71, true), (41, some 73, false), (42, some 74, true), (46, some 78, true), (48, some 80, false), (49, some 81, true), (50, some 82, false), (51, some 83, false), (52, some 84, false)] (bm 53 9007199254740991) rfl (sq_of HT_.out HW_.out (by kernel_rfl)) (fun _ _ _ _ _ h => h) hHeld ?_
                  repeat (first | (refine SqOn.pure (v := ?_) (a' := ?_) rfl rfl (Or.inl ⟨by kernel_rfl, ?_⟩) ?_ ?_; rotate_left 2; (focus (intro w'; go_simp; with_reducible rfl)); (focus exact pU_)) | (refine SqOn.take (v := ?_) (a' := ?_) rfl rfl (Or.inl ⟨by kernel_rfl, ?_⟩) ?_ ?_; rotate_left 2; (focus (rintro w' ⟨s0, s1, s2, s3, s4, s5⟩; go_simp; with_reducible rfl)); (focus exact pU_)))
                  refine SqOn.nil ?_; refine done_ (done_of HT_.out (by kernel_rfl)) ?_; go_wp2; exact ⟨⟨j + 1, by omega, by congr 1, by rw [HS.out, hbet, if_pos rfl], ⟨by repeat (first | exact HB8.out | apply b1_)⟩⟩, by simp [intOf]; omega⟩
                · have hbet : better U H (i : Int) j = false := by unfold better; simp [hU1, hU2, hH]
                  have c1 : (rd U j < rd U i) = False := eq_false hU1; have c2 : (rd U j = rd U i) = True := eq_true hU2; have c2b : (rd U j == rd U i) = true := beq_iff_eq.mpr hU2; have c3 : (rd H i < rd H j) = False := eq_false hH; clear hU1 hU2 hH
                  go_wp2_with (first | (go_at_call 87; refine HC.out.mono ?_; rintro e w' ⟨rfl, ⟨nd, rfl⟩⟩) | (go_at_call 123; refine (HR.out _).mono ?_; rintro e w' ⟨rfl, hb⟩; have HB8 := aM_ ((bN_ HB7.out nd).trans (hb.mono (bN_ HB7.out nd).size)); clear hb; have m2 : w'.cell? ⟨g, 2, none⟩ = some (.slice (some au) l.length cu) := (bC_ ((HB8.out.block g (blk_lt HG.out)).trans HG.out) 2).trans H2.out; have m3 : w'.cell? ⟨g, 3, none⟩ = some (.slice (some ah) l.length ch) := (bC_ ((HB8.out.block g (blk_lt HG.out)).trans HG.out) 3).trans H3.out; have uj := pw_cell_below HB8.out UJ.out; have hj := pw_cell_below HB8.out EJ.out; (try have ui := pw_cell_below HB8.out UI.out); (try have hi_ := pw_cell_below HB8.out EI.out)))
                  refine start_ (n := 53) (S := fun w' => w'.cell? ⟨g, 2, none⟩ = some (.slice (some au) l.length cu) ∧ w'.cell? (au.add j) = some (.int .i64 (rd U (j : Int))) ∧ w'.cell? (au.add i) = some (.int .i64 (rd U (i : Int))) ∧ w'.cell? ⟨g, 3, none⟩ = some (.slice (some ah) l.length ch) ∧ w'.cell? (ah.add j) = some (.int .i64 (rd H (j : Int))) ∧ w'.cell? (ah.add i) = some (.int .i64 (rd H (i : Int)))) (ds := []) (bm 53 0) (by kernel_rfl) rfl (by kernel_rfl) ⟨m2, uj, ui, m3, hj, hi_⟩ (fun hHeld => ?_); refine with_tabW best108.tab6 best108.bits6 (fun HT_ HW_ => ?_); refine sq_ (k := 0) [(0, some 32, false), (1, some 33, false), (2, some 34, false), (3, some 35, false), (4, some 36, false), (5, some 37, false), (7, some 39, false), (10, some 42, false), (11, some 43, false), (12, some 44, false), (14, some 46, false), (6, some 38, true), (8, some 40, false), (9, some 41, true), (13, some 45, true), (15, some 47, false), (16, some 48, true), (17, some 49, false), (18, some 50, false), (19, some 51, false), (20, some 52, false), (21, some 53, false), (22, some 54, false), (24, some 56, false), (27, some 59, false), (28, some 60, false), (29, some 61, false), (31, some 63, false), (23, some 55, true), (25, some 57, false), (26, some 58, true), (30, some 62, true), (32, some 64, false), (33, some 65, true), (34, some 66, false), (35, some 67, false), (36, some 68, false), (37, some 69, false), (38, some 70, false), (40, some 72, false), (43, some 75, false), (44, some 76, false), (45, some 77, false), (47, some 79, false), (39, some 71, true), (41, some 73, false), (42, some 74, true), (46, some 78, true), (48, some 80, false), (49, some 81, true), (50, some 82, false), (51, some 83, false), (52, some 84, false)] (bm 53 9007199254740991) rfl (sq_of HT_.out HW_.out (by kernel_rfl)) (fun _ _ _ _ _ h => h) hHeld ?_
                  repeat (first | (refine SqOn.pure (v := ?_) (a' := ?_) rfl rfl (Or.inl ⟨by kernel_rfl, ?_⟩) ?_ ?_; rotate_left 2; (focus (intro w'; go_simp; with_reducible rfl)); (focus exact pU_)) | (refine SqOn.take (v := ?_) (a' := ?_) rfl rfl (Or.inl ⟨by kernel_rfl, ?_⟩) ?_ ?_; rotate_left 2; (focus (rintro w' ⟨s0, s1, s2, s3, s4, s5⟩; go_simp; with_reducible rfl)); (focus exact pU_)))
                  refine SqOn.nil ?_; refine done_ (done_of HT_.out (by kernel_rfl)) ?_; go_wp2; exact ⟨⟨j + 1, by omega, by congr 1, by rw [HS.out, hbet, if_neg (by decide)], ⟨by repeat (first | exact HB8.out | apply b1_)⟩⟩, by simp [intOf]; omega⟩
              · have hbet : better U H (i : Int) j = false := by unfold better; simp [hU1, hU2]
                have c1 : (rd U j < rd U i) = False := eq_false hU1; have c2 : (rd U j = rd U i) = False := eq_false hU2; have c2b : (rd U j == rd U i) = false := beq_eq_false_iff_ne.mpr hU2; clear hU1 hU2
                go_wp2_with (first | (go_at_call 87; refine HC.out.mono ?_; rintro e w' ⟨rfl, ⟨nd, rfl⟩⟩) | (go_at_call 123; refine (HR.out _).mono ?_; rintro e w' ⟨rfl, hb⟩; have HB8 := aM_ ((bN_ HB7.out nd).trans (hb.mono (bN_ HB7.out nd).size)); clear hb; have m2 : w'.cell? ⟨g, 2, none⟩ = some (.slice (some au) l.length cu) := (bC_ ((HB8.out.block g (blk_lt HG.out)).trans HG.out) 2).trans H2.out; have m3 : w'.cell? ⟨g, 3, none⟩ = some (.slice (some ah) l.length ch) := (bC_ ((HB8.out.block g (blk_lt HG.out)).trans HG.out) 3).trans H3.out; have uj := pw_cell_below HB8.out UJ.out; have hj := pw_cell_below HB8.out EJ.out; (try have ui := pw_cell_below HB8.out UI.out); (try have hi_ := pw_cell_below HB8.out EI.out)))
                refine start_ (n := 53) (S := fun w' => w'.cell? ⟨g, 2, none⟩ = some (.slice (some au) l.length cu) ∧ w'.cell? (au.add j) = some (.int .i64 (rd U (j : Int))) ∧ w'.cell? (au.add i) = some (.int .i64 (rd U (i : Int)))) (ds := []) (bm 53 0) (by kernel_rfl) rfl (by kernel_rfl) ⟨m2, uj, ui⟩ (fun hHeld => ?_); refine with_tabW best108.tab6 best108.bits6 (fun HT_ HW_ => ?_); refine sq_ (k := 17) [(0, some 32, false), (1, some 33, false), (2, some 34, false), (3, some 35, false), (4, some 36, false), (5, some 37, false), (7, some 39, false), (10, some 42, false), (11, some 43, false), (12, some 44, false), (14, some 46, false), (6, some 38, true), (8, some 40, false), (9, some 41, true), (13, some 45, true), (15, some 47, false), (16, some 48, true), (17, some 49, false), (18, some 50, false), (19, some 51, false), (20, some 52, false), (21, some 53, false), (22, some 54, false), (24, some 56, false), (27, some 59, false), (28, some 60, false), (29, some 61, false), (31, some 63, false), (23, some 55, true), (25, some 57, false), (26, some 58, true), (30, some 62, true), (32, some 64, false), (33, some 65, true), (34, some 66, false), (35, some 67, false)] (bm 53 68719476735) rfl (sq_of HT_.out HW_.out (by kernel_rfl)) (fun _ _ _ _ _ h => h) hHeld ?_
                repeat (first | (refine SqOn.pure (v := ?_) (a' := ?_) rfl rfl (Or.inl ⟨by kernel_rfl, ?_⟩) ?_ ?_; rotate_left 2; (focus (intro w'; go_simp; with_reducible rfl)); (focus exact pU_)) | (refine SqOn.take (v := ?_) (a' := ?_) rfl rfl (Or.inl ⟨by kernel_rfl, ?_⟩) ?_ ?_; rotate_left 2; (focus (rintro w' ⟨s0, s1, s2⟩; go_simp; with_reducible rfl)); (focus exact pU_)))
                refine SqOn.nil ?_; refine offs_ (k := 2) (a' := ?_) [36, 37, 38, 39, 40, 41, 42, 43, 44, 45, 46, 47, 48, 49, 50] [some 68, some 69, some 70, some 71, some 72, some 73, some 74, some 75, some 76, some 77, some 78, some 79, some 80, some 81, some 82] (bm 53 2251799813685247) rfl rfl (off_of HT_.out (by kernel_rfl)) (by kernel_rfl) (fun _ _ _ _ _ h => h) ?_ ?_; rotate_left
                · simp only [undefs, Act.put, List.setIfInBounds_toArray, List.set_cons_zero, List.set_cons_succ]; rfl
                refine sq_ (k := 0) [(51, some 83, false), (52, some 84, false)] (bm 53 9007199254740991) rfl (sq_of HT_.out HW_.out (by kernel_rfl)) (fun _ _ _ _ _ h => h) hHeld ?_
                repeat (first | (refine SqOn.pure (v := ?_) (a' := ?_) rfl rfl (Or.inl ⟨by kernel_rfl, ?_⟩) ?_ ?_; rotate_left 2; (focus (intro w'; go_simp; with_reducible rfl)); (focus exact pU_)))
                refine SqOn.nil ?_; refine done_ (done_of HT_.out (by kernel_rfl)) ?_; go_wp2; exact ⟨⟨j + 1, by omega, by congr 1, by rw [HS.out, hbet, if_neg (by decide)], ⟨by repeat (first | exact HB8.out | apply b1_)⟩⟩, by simp [intOf]; omega⟩
    · obtain rfl : j = l.length := by omega
      have q1 : ((l.length : Int) < (l.length : Int)) = False := eq_false (by omega); go_wp2; go_ret; exact ⟨rfl, HB.out⟩
end
end Go.Proofs.Ytibfkkjkahpobaa.PDag
