-- the texts that this claim needs, out of this session's and its print's (wip/shrink.py)
import Derived.Test.YtibfkkjkahpobaaDagPureK
import Derived.Test.YtibfkkjkahpobaaHighK
import Derived.Test.YtibfkkjkahpobaaPDagx14K
import Derived.Test.YtibfkkjkahpobaaPDagx20K
import Derived.Test.YtibfkkjkahpobaaUrgeK
set_option linter.unusedSimpArgs false
set_option linter.unusedVariables false
namespace Go.Proofs.Ytibfkkjkahpobaa.PDag
open Go.RowKit Go.Proofs.YtibfkkjkahpobaaW.PrintWords Go.Proofs.YtibfkkjkahpobaaW.PrintLast Go.Proofs.YtibfkkjkahpobaaW.PrintMore
theorem rd_nat (h : List Int) (i : Nat) (hi : i < h.length) : rd h (i : Int) = h[i] := by
  unfold rd
  rw [Int.toNat_natCast, List.getD_eq_getElem?_getD, List.getElem?_eq_getElem hi]; rfl
theorem rd_set_same (h : List Int) (i : Nat) (v : Int) (hi : i < h.length) : rd (h.set i v) (i : Int) = v := by
  rw [rd_nat _ _ (by simpa using hi)]; simp
theorem rd_set_other (h : List Int) (i : Nat) (t : Int) (v : Int) (ht : 0 ≤ t) (hne : t ≠ i) : rd (h.set i v) t = rd h t := by
  obtain ⟨t, rfl⟩ := Int.eq_ofNat_of_zero_le ht
  unfold rd
  rw [Int.toNat_natCast, List.getD_eq_getElem?_getD, List.getD_eq_getElem?_getD, List.getElem?_set_ne (by omega)]
theorem edgesSeg_mem (l : List S24) (i : Nat) : ∀ (d j : Nat) (e : S51), e ∈ edgesSeg l i j d → e.f0 = (i : Int) ∧ ∃ t : Nat, e.f1 = (t : Int) ∧ j ≤ t ∧ t < j + d
  | 0, _, e, h => by simp [edgesSeg] at h
  | d + 1, j, e, h => by
    unfold edgesSeg at h
    rcases List.mem_append.1 h with h | h
    · split at h
      · rw [List.mem_singleton] at h; subst h; exact ⟨rfl, j, rfl, Nat.le_refl _, by omega⟩
      · simp at h
    · obtain ⟨h1, t, h2, h3, h4⟩ := edgesSeg_mem l i d (j + 1) e h
      exact ⟨h1, t, h2, by omega, by omega⟩
theorem edgesFrom_mem (l : List S24) (i : Nat) (e : S51) (h : e ∈ edgesFrom l i) : e.f0 = (i : Int) ∧ ∃ t : Nat, e.f1 = (t : Int) ∧ i < t ∧ t < l.length := by
  obtain ⟨h1, t, h2, h3, h4⟩ := edgesSeg_mem l i _ _ e h
  exact ⟨h1, t, h2, by omega, by omega⟩
theorem edgesUp_filter (l : List S24) (i : Nat) : ∀ (d a : Nat), (edgesUp l a d).filter (fun e => e.f0 == (i : Int)) = if a ≤ i ∧ i < a + d then edgesFrom l i else []
  | 0, a => by rw [if_neg (by omega)]; rfl
  | d + 1, a => by
    rw [edgesUp_succ, List.filter_append, edgesUp_filter l i d (a + 1)]
    by_cases h : a = i
    · subst h
      rw [if_neg (by omega), if_pos (by omega), List.append_nil]
      apply List.filter_eq_self.2
      intro e he
      simp [(edgesFrom_mem l a e he).1]
    · have h1 : (edgesFrom l a).filter (fun e => e.f0 == (i : Int)) = [] := by
        apply List.filter_eq_nil_iff.2
        intro e he
        simp [(edgesFrom_mem l a e he).1]; omega
      rw [h1, List.nil_append]
      by_cases h2 : a + 1 ≤ i ∧ i < a + 1 + d
      · rw [if_pos h2, if_pos (by omega)]
      · rw [if_neg h2, if_neg (by omega)]
section
variable (m : Int → Int → Int) (val : S51 → Int → Int)
def gstep (h : List Int) (x : S51) : Option (List Int) :=
  if 0 ≤ x.f0 ∧ x.f0 < h.length ∧ 0 ≤ x.f1 ∧ x.f1 < h.length then some (h.set x.f0.toNat (m (rd h x.f0) (val x (rd h x.f1)))) else none
def gfold (h : List Int) (seg : List S51) (v : Int) : Int := seg.foldl (fun v e => m v (val e (rd h e.f1))) v
def gAt (init : List Int) (l : List S24) : Nat → List Int
  | 0 => init
  | d + 1 => (gAt init l d).set (l.length - (d + 1)) (gfold m val (gAt init l d) (edgesFrom l (l.length - (d + 1))) (rd (gAt init l d) ((l.length - (d + 1) : Nat) : Int)))
theorem gAt_succ (init : List Int) (l : List S24) (d : Nat) : gAt m val init l (d + 1) = (gAt m val init l d).set (l.length - (d + 1)) (gfold m val (gAt m val init l d) (edgesFrom l (l.length - (d + 1))) (rd (gAt m val init l d) ((l.length - (d + 1) : Nat) : Int))) := rfl
theorem gAt_len (init : List Int) (l : List S24) : ∀ d, (gAt m val init l d).length = init.length
  | 0 => rfl
  | d + 1 => by simp [gAt, gAt_len init l d]
theorem gAt_below (init : List Int) (l : List S24) : ∀ (d t : Nat), t + d < l.length → rd (gAt m val init l d) (t : Int) = rd init (t : Int)
  | 0, t, h => rfl
  | d + 1, t, h => by
    unfold gAt
    rw [rd_set_other _ _ _ _ (by omega) (by omega), gAt_below init l d t (by omega)]
theorem gfold_congr (h h' : List Int) : ∀ (seg : List S51) (v : Int), (∀ e ∈ seg, rd h e.f1 = rd h' e.f1) → gfold m val h seg v = gfold m val h' seg v
  | [], v, _ => rfl
  | e :: seg, v, he => by
    unfold gfold
    rw [List.foldl_cons, List.foldl_cons, he e List.mem_cons_self]
    exact gfold_congr h h' seg _ (fun e h => he e (List.mem_cons_of_mem _ h))
variable {m}
theorem gfold_push (hc : ∀ a b, m a b = m b a) (ha : ∀ a b c, m (m a b) c = m a (m b c)) (h : List Int) : ∀ (seg : List S51) (v a : Int), gfold m val h seg (m v a) = m (gfold m val h seg v) a
  | [], v, a => rfl
  | e :: seg, v, a => by
    unfold gfold
    rw [List.foldl_cons, List.foldl_cons]
    have := gfold_push hc ha h seg (m v (val e (rd h e.f1))) a
    unfold gfold at this
    rw [← this]
    congr 1
    rw [ha, hc a, ← ha]
theorem gfold_rev (hc : ∀ a b, m a b = m b a) (ha : ∀ a b c, m (m a b) c = m a (m b c)) (h : List Int) : ∀ (seg : List S51) (v : Int), gfold m val h seg.reverse v = gfold m val h seg v
  | [], v => rfl
  | e :: seg, v => by
    have h1 := gfold_rev hc ha h seg v
    have h2 := gfold_push val hc ha h seg v (val e (rd h e.f1))
    unfold gfold at *
    rw [List.reverse_cons, List.foldl_append, List.foldl_cons, h1, List.foldl_cons, h2]
    rfl
theorem group_steps (i : Nat) : ∀ (seg : List S51) (h : List Int), i < h.length → (∀ e ∈ seg, e.f0 = (i : Int) ∧ ∃ t : Nat, e.f1 = (t : Int) ∧ i < t ∧ t < h.length) →
    seg.foldlM (gstep m val) h = some (h.set i (gfold m val h seg (rd h (i : Int))))
  | [], h, hi, _ => by
    simp only [List.foldlM_nil]
    unfold gfold
    simp only [List.foldl_nil]
    rw [rd_nat _ _ hi, List.set_getElem_self]; rfl
  | e :: seg, h, hi, he => by
    obtain ⟨e0, t, e1, h1, h2⟩ := he e List.mem_cons_self
    have hs : gstep m val h e = some (h.set i (m (rd h (i : Int)) (val e (rd h e.f1)))) := by
      unfold gstep
      rw [e0, if_pos ⟨by omega, by omega, by omega, by omega⟩, Int.toNat_natCast]
    rw [List.foldlM_cons, hs]
    show List.foldlM (gstep m val) _ seg = _
    rw [group_steps i seg _ (by simpa using hi) (fun e' h' => by
      obtain ⟨a, b, c, d, f⟩ := he e' (List.mem_cons_of_mem _ h')
      exact ⟨a, b, c, d, by simpa using f⟩)]
    rw [List.set_set, rd_set_same _ _ _ hi]
    congr 2
    unfold gfold
    rw [List.foldl_cons]
    exact gfold_congr m val _ h seg _ (fun e' h' => by
      obtain ⟨a, b, c, d, f⟩ := he e' (List.mem_cons_of_mem _ h')
      exact rd_set_other _ _ _ _ (by omega) (by omega))
theorem back_steps (hc : ∀ a b, m a b = m b a) (ha : ∀ a b c, m (m a b) c = m a (m b c)) (init : List Int) (l : List S24) (hl : init.length = l.length) : ∀ (d i : Nat), i + d = l.length → (edgesUp l i d).reverse.foldlM (gstep m val) init = some (gAt m val init l d)
  | 0, i, _ => rfl
  | d + 1, i, hi => by
    rw [edgesUp_succ, List.reverse_append, List.foldlM_append, back_steps hc ha init l hl d (i + 1) (by omega)]
    show (edgesFrom l i).reverse.foldlM (gstep m val) (gAt m val init l d) = _
    have hg := gAt_len m val init l d
    rw [group_steps val i _ _ (by omega) (fun e he => by
      obtain ⟨h0, t, h1, h2, h3⟩ := edgesFrom_mem l i e (List.mem_reverse.1 he)
      exact ⟨h0, t, h1, h2, by omega⟩), gfold_rev val hc ha]
    rw [gAt_succ, show l.length - (d + 1) = i by omega]
end
theorem mx_max (a b : Int) : mx a b = max a b := by unfold mx; rw [Int.max_def]; split <;> split <;> omega
def hval (e : S51) (x : Int) : Int := wrap64 (e.f2 + x)
theorem high_step : dag_High.step = gstep max hval := rfl
def lates (l : List S24) : List Int := l.map (fun x => lateOp x.f0)
def heights (l : List S24) : List Int := gAt max hval (lates l) l l.length
def okA (l : List S24) : Prop := ∀ x ∈ l, okI x = true
theorem okA_L {l : List S24} (h : okA l) : okL l := fun i hi => by rw [rd_at l i hi]; exact h _ (List.getElem_mem hi)
theorem high_init {k : Nat} (hk : 5 ≤ k) : ∀ l, okA l → dag_High.init k l = some (lates l)
  | [], _ => rfl
  | x :: xs, h => by
    have hx := okI_op (h x List.mem_cons_self)
    unfold dag_High.init lates
    rw [late_eq hk _ hx.1 hx.2, high_init hk xs (fun y hy => h y (List.mem_cons_of_mem _ hy))]
    rfl
theorem high_eq {k : Nat} (hk : 5 ≤ k) (l : List S24) (hl : l.length ≤ 200) (h : okA l) : dag_High.f k l (edges l) = some (heights l) := by
  unfold dag_High.f heights edges
  rw [if_pos (by omega), high_init hk l h, high_step]
  exact back_steps hval (fun a b => Int.max_comm a b) (fun a b c => Int.max_assoc a b c) (lates l) l (by simp [lates]) l.length 0 (by omega)
theorem rd51_at (E : List S51) (i : Nat) (h : i < E.length) : q51 E (i : Int) = E[i] := by
  unfold q51
  rw [Int.toNat_natCast, List.getD_eq_getElem?_getD, List.getElem?_eq_getElem h]; rfl
theorem set_rd (h : List Int) (i : Nat) (hi : i < h.length) : h.set i (rd h (i : Int)) = h := by
  rw [rd_nat _ _ hi, List.set_getElem_self]
theorem gfold_step {m : Int → Int → Int} {val : S51 → Int → Int} (h : List Int) (i : Nat) (e : S51) (seg : List S51) (hi : i < h.length) (he : ∀ e ∈ seg, ∃ t : Nat, e.f1 = (t : Int) ∧ i < t) :
    (h.set i (m (rd h (i : Int)) (val e (rd h e.f1)))).set i (gfold m val (h.set i (m (rd h (i : Int)) (val e (rd h e.f1)))) seg (rd (h.set i (m (rd h (i : Int)) (val e (rd h e.f1)))) (i : Int))) = h.set i (gfold m val h (e :: seg) (rd h (i : Int))) := by
  rw [List.set_set, rd_set_same _ _ _ hi]
  congr 1
  unfold gfold
  rw [List.foldl_cons]
  exact gfold_congr m val _ h seg _ (fun e' h' => by
    obtain ⟨t, a, b⟩ := he e' h'
    exact rd_set_other _ _ _ _ (by omega) (by omega))
theorem wrap_down (i : Nat) (h : i ≤ 1000000) : wrap64 ((i : Int) - 1) = (i : Int) - 1 := by unfold wrap64; omega
theorem href_l1 (l : List S24) (E : List S51) (hE : E.length ≤ 1000000) (i : Nat) (hi : i < l.length) (hn : l.length ≤ 200) (hr : ∀ e ∈ E, e.f0 = (i : Int) → ∃ t : Nat, e.f1 = (t : Int) ∧ i < t ∧ t < l.length) : ∀ (d k q : Nat) (h : List Int), q + d = E.length → h.length = l.length →
    r13_Heights.l1 (k + d + 1) l h E (i : Int) (q : Int) = r13_Heights.l0 k l (h.set i (gfold max hval h ((E.drop q).filter (fun e => e.f0 == (i : Int))) (rd h (i : Int)))) E ((i : Int) - 1)
  | 0, k, q, h, hq, hl => by
    unfold r13_Heights.l1
    rw [if_neg (by omega), List.drop_of_length_le (by omega), wrap_down i (by omega)]
    unfold gfold
    rw [List.filter_nil, List.foldl_nil, set_rd _ _ (by omega)]
  | d + 1, k, q, h, hq, hl => by
    have hlt : q < E.length := by omega
    rw [show k + (d + 1) + 1 = (k + d + 1) + 1 by omega]
    unfold r13_Heights.l1
    rw [if_pos (by omega), if_pos (by omega), rd51_at E q hlt, wrap_at (by omega), List.drop_eq_getElem_cons hlt]
    by_cases h0 : E[q].f0 = (i : Int)
    · obtain ⟨t, ht, ht1, ht2⟩ := hr E[q] (List.getElem_mem hlt) h0
      rw [if_pos h0, if_pos (by omega), if_pos (by omega), if_pos (by omega), if_pos (by omega), Int.toNat_natCast, href_l1 l E hE i hi hn hr d k (q + 1) _ (by omega) (by simpa using hl), List.filter_cons_of_pos (by simpa using h0), mx_max]
      exact congrArg (fun z => r13_Heights.l0 k l z E ((i : Int) - 1)) (gfold_step (m := max) (val := hval) h i E[q] _ (by omega) (fun e he => by
        obtain ⟨h1, h2⟩ := List.mem_filter.1 he
        obtain ⟨t, a, b, c⟩ := hr e (List.mem_of_mem_drop h1) (by simpa using h2)
        exact ⟨t, a, b⟩))
    · rw [if_neg h0, href_l1 l E hE i hi hn hr d k (q + 1) h (by omega) hl, List.filter_cons_of_neg (by simpa using h0)]
theorem edges_len (l : List S24) : ∀ (d i : Nat), (edgesUp l i d).length ≤ d * l.length
  | 0, i => by simp [edgesUp]
  | d + 1, i => by
    have := edges_len l d (i + 1)
    have h2 := edgesSeg_len l i (l.length - (i + 1)) (i + 1)
    rw [edgesUp_succ, Nat.succ_mul]
    unfold edgesFrom
    rw [List.length_append]
    omega
theorem edges_range (l : List S24) : ∀ (d a : Nat) (e : S51), e ∈ edgesUp l a d → ∃ i t : Nat, e.f0 = (i : Int) ∧ e.f1 = (t : Int) ∧ i < t ∧ t < l.length
  | 0, a, e, h => by simp [edgesUp] at h
  | d + 1, a, e, h => by
    rw [edgesUp_succ] at h
    rcases List.mem_append.1 h with h | h
    · obtain ⟨h1, t, h2, h3, h4⟩ := edgesFrom_mem l a e h
      exact ⟨a, t, h1, h2, h3, h4⟩
    · exact edges_range l d (a + 1) e h
theorem lates_at (l : List S24) (i : Nat) (hi : i < l.length) : rd (lates l) (i : Int) = lateOp (q24 l i).f0 := by
  rw [rd_nat _ _ (by simpa [lates] using hi), rd_at l i hi]
  simp [lates]
theorem same_from {m : Int → Int → Int} {val : S51 → Int → Int} (l : List S24) (h G : List Int) (i : Nat) (v : Int) (hi : i < l.length) (hl : h.length = l.length) (hG : G.length = l.length) (ha : ∀ t : Nat, i < t → t < l.length → rd h (t : Int) = rd G (t : Int)) (hv : v = rd G (i : Int)) :
    ∀ t : Nat, i ≤ t → t < l.length → rd ((h.set i v).set i (gfold m val (h.set i v) (edgesFrom l i) (rd (h.set i v) (i : Int)))) (t : Int) = rd (G.set i (gfold m val G (edgesFrom l i) (rd G (i : Int)))) (t : Int) := by
  intro t h1 h2
  rw [List.set_set, rd_set_same _ _ _ (by omega)]
  by_cases e : t = i
  · subst e
    rw [rd_set_same _ _ _ (by omega), rd_set_same _ _ _ (by omega), hv]
    exact gfold_congr m val _ G _ _ (fun e he => by
      obtain ⟨_, u, hu, hu1, hu2⟩ := edgesFrom_mem l t e he
      rw [rd_set_other _ _ _ _ (by omega) (by omega), hu]
      exact ha u hu1 hu2)
  · rw [rd_set_other _ _ _ _ (by omega) (by omega), rd_set_other _ _ _ _ (by omega) (by omega)]
    exact ha t (by omega) h2
theorem ext_rd (h G : List Int) (n : Nat) (hl : h.length = n) (hG : G.length = n) (ha : ∀ t : Nat, t < n → rd h (t : Int) = rd G (t : Int)) : h = G := by
  apply List.ext_getElem (by omega)
  intro t h1 h2
  have := ha t (by omega)
  rwa [rd_nat _ _ h1, rd_nat _ _ h2] at this
theorem href_l0 (l : List S24) (hn : l.length ≤ 200) (ho : okA l) (F : Nat) (hF : F = (edges l).length + 3) : ∀ (i k : Nat) (h : List Int), i ≤ l.length → 10 + i * F ≤ k → h.length = l.length → (∀ t : Nat, i ≤ t → t < l.length → rd h (t : Int) = rd (gAt max hval (lates l) l (l.length - i)) (t : Int)) →
    r13_Heights.l0 k l h (edges l) ((i : Int) - 1) = some (heights l)
  | 0, k, h, hi, hk, hl, ha => by
    obtain ⟨k, rfl⟩ : ∃ k', k = k' + 1 := ⟨k - 1, by omega⟩
    unfold r13_Heights.l0
    rw [if_neg (by omega)]
    congr 1
    exact ext_rd h _ l.length hl (by rw [heights, gAt_len]; simp [lates]) (fun t ht => ha t (by omega) ht)
  | i + 1, k, h, hi, hk, hl, ha => by
    have e2 : (i + 1) * F = i * F + F := Nat.succ_mul _ _
    have hlen : (edges l).length ≤ 40000 := Nat.le_trans (edges_len l l.length 0) (Nat.mul_le_mul hn hn)
    obtain ⟨k, rfl⟩ : ∃ k', k = (k' + (edges l).length + 1) + 1 := ⟨k - (edges l).length - 2, by omega⟩
    have hop := okI_op (okA_L ho i (by omega))
    unfold r13_Heights.l0
    rw [show (((i + 1 : Nat) : Int) - 1) = (i : Int) by omega, if_pos (by omega), if_pos (by omega), if_pos (by omega), rlate_eq (by omega) _ hop.1 hop.2]
    simp only [Option.bind_some, Int.toNat_natCast]
    rw [if_pos (by omega)]
    have h1 := href_l1 l (edges l) (by omega) i (by omega) hn (fun e he h0 => by
      obtain ⟨a, t, ea, et, h3, h4⟩ := edges_range l _ _ e he
      exact ⟨t, et, by omega, h4⟩) (edges l).length k 0 (h.set i (lateOp (q24 l i).f0)) (by omega) (by simpa using hl)
    rw [show ((0 : Nat) : Int) = 0 from rfl, List.drop_zero] at h1
    rw [h1]
    have hf : (edges l).filter (fun e => e.f0 == (i : Int)) = edgesFrom l i := by
      unfold edges
      rw [edgesUp_filter, if_pos (by omega)]
    rw [hf]
    have hg := gAt_len max hval (lates l) l (l.length - (i + 1))
    have hla : (lates l).length = l.length := by simp [lates]
    refine href_l0 l hn ho F hF i k _ (by omega) (by omega) (by simpa using hl) ?_
    rw [show l.length - i = (l.length - (i + 1)) + 1 by omega, gAt_succ, show l.length - (l.length - (i + 1) + 1) = i by omega]
    exact same_from l h _ i _ (by omega) hl (by omega) (fun t h1 h2 => ha t (by omega) h2) (by rw [gAt_below max hval (lates l) l _ i (by omega), lates_at l i (by omega)])
theorem rheights_eq {k : Nat} (hk : 10000000 ≤ k) (l : List S24) (hn : l.length ≤ 200) (ho : okA l) : r13_Heights.f k l = some (heights l) := by
  have hlen : (edges l).length ≤ 40000 := Nat.le_trans (edges_len l l.length 0) (Nat.mul_le_mul hn hn)
  have hm : l.length * ((edges l).length + 3) ≤ 200 * 40003 := Nat.mul_le_mul hn (by omega)
  unfold r13_Heights.f
  rw [if_pos (by omega), if_pos (by omega), ref_edges l hn (okA_L ho) (by omega)]
  simp only [Option.bind_some, Int.toNat_natCast]
  rw [wrap_down _ (by omega)]
  exact href_l0 l hn ho _ rfl l.length k _ (by omega) (by omega) (by simp) (fun t h1 h2 => absurd h2 (by omega))
end Go.Proofs.Ytibfkkjkahpobaa.PDag
