-- the texts that this claim needs, out of this session's and its print's (wip/shrink.py)
import Derived.Test.YtibfkkjkahpobaaAskL
import Derived.Test.YtibfkkjkahpobaaEdgesPureL
import Derived.Test.YtibfkkjkahpobaaPDagx27L
namespace Go.Proofs.Ytibfkkjkahpobaa.PDag
open Go.RowKit Go.Proofs.YtibfkkjkahpobaaW.PrintWords Go.Proofs.YtibfkkjkahpobaaW.PrintLast Go.Proofs.YtibfkkjkahpobaaW.PrintMore
set_option linter.unusedVariables false
set_option linter.unusedSimpArgs false
def step1 (x y : S24) (c n : Int) : Int := if rdsP x y = true then mx n (wrap64 (c + lateOp y.f0)) else n
def step2 (x y : S24) (c n : Int) : Int := if (decide (x.f0 = 33) || (effOp x.f0 && effOp y.f0)) = true then mx n (wrap64 (c + 1)) else n
def step3 (x y : S24) (c n : Int) : Int := if x.f0 = 33 then n else mx (mx n (wrap64 (c - 2))) (wrap64 ((wrap64 ((wrap64 (c + lateOp y.f0)) - 2)) - 1))
def lastUp (l : List S24) (at_ : List Int) (x : S24) : Nat → Nat → Int → Int
  | 0, _, n => n
  | d + 1, i, n => lastUp l at_ x d (i + 1) (step3 x (q24 l i) (rd at_ i) (step2 x (q24 l i) (rd at_ i) (step1 x (q24 l i) (rd at_ i) n)))
def lastOf (l : List S24) (x : S24) (at_ : List Int) : Int := if x.f0 = 0 then 0 else lastUp l at_ x l.length 0 0
theorem own_j3 {k : Nat} (hk : 40 ≤ k) (x y : S24) (hx : 0 ≤ x.f0 ∧ x.f0 ≤ 33) (hy : 0 ≤ y.f0 ∧ y.f0 ≤ 33) (at_ : List Int) (l : List S24) (n c m : Int) (i : Nat) (hi : i ≤ 1000000) :
    dag_Least.j3 (k + 1) at_ n c l m (i : Int) x.f0 x.f1 x.f2 x.f3 x.f4 x.f5 y.f0 y.f1 y.f2 y.f3 y.f4 y.f5 = dag_Least.l0 k at_ (step3 x y c n) l m ((i + 1 : Nat) : Int) x.f0 x.f1 x.f2 x.f3 x.f4 x.f5 := by
  rw [dag_Least.j3, wrap_at (by omega)]
  unfold step3
  by_cases h : x.f0 = 33
  · rw [if_pos h, if_pos h]
  · rw [if_neg h, if_neg h, late_eq (by omega) _ hy.1 hy.2, Option.bind_some]
theorem own_j1 {k : Nat} (hk : 40 ≤ k) (x y : S24) (hx : 0 ≤ x.f0 ∧ x.f0 ≤ 33) (hy : 0 ≤ y.f0 ∧ y.f0 ≤ 33) (at_ : List Int) (l : List S24) (n c m : Int) (i : Nat) (hi : i ≤ 1000000) :
    dag_Least.j1 (k + 1 + 1 + 1) at_ n c l m (i : Int) x.f0 x.f1 x.f2 x.f3 x.f4 x.f5 y.f0 y.f1 y.f2 y.f3 y.f4 y.f5 = dag_Least.l0 k at_ (step3 x y c (step2 x y c n)) l m ((i + 1 : Nat) : Int) x.f0 x.f1 x.f2 x.f3 x.f4 x.f5 := by
  rw [dag_Least.j1]
  unfold step2
  by_cases h : x.f0 = 33
  · rw [if_pos h, dag_Least.j2, if_pos rfl, decide_eq_true h, Bool.true_or, if_pos rfl]
    exact own_j3 hk x y hx hy at_ l _ c m i hi
  · rw [if_neg h, eff_eq (by omega) _ hx.1 hx.2, Option.bind_some, decide_eq_false h, Bool.false_or]
    cases effOp x.f0 with
    | false =>
      rw [if_neg (by decide), dag_Least.j2, if_neg (by decide), Bool.false_and, if_neg (by decide)]
      exact own_j3 hk x y hx hy at_ l _ c m i hi
    | true =>
      rw [if_pos rfl, eff_eq (by omega) _ hy.1 hy.2, Option.bind_some, dag_Least.j2, Bool.true_and]
      cases effOp y.f0 with
      | false =>
        rw [if_neg (by decide), if_neg (by decide)]
        exact own_j3 hk x y hx hy at_ l _ c m i hi
      | true =>
        rw [if_pos rfl, if_pos rfl]
        exact own_j3 hk x y hx hy at_ l _ c m i hi
theorem own_last (l : List S24) (hl : l.length ≤ 1000) (ho : okL l) (x : S24) (hx : 0 ≤ x.f0 ∧ x.f0 ≤ 33) (at_ : List Int) (ha : at_.length = l.length) : ∀ (d k i : Nat) (n : Int), i + d = l.length → 100 + 4 * d ≤ k →
    dag_Least.l0 k at_ n l (l.length : Int) (i : Int) x.f0 x.f1 x.f2 x.f3 x.f4 x.f5 = some (lastUp l at_ x d i n)
  | 0, k, i, n, hi, hk => by
    obtain ⟨k, rfl⟩ : ∃ k', k = k' + 1 := ⟨k - 1, by omega⟩
    rw [dag_Least.l0, if_neg (by omega)]; rfl
  | d + 1, k, i, n, hi, hk => by
    obtain ⟨k, rfl⟩ : ∃ k', k = k' + 1 + 1 + 1 + 1 := ⟨k - 4, by omega⟩
    have hy := okI_op (ho i (by omega))
    rw [dag_Least.l0, if_pos (by omega), if_pos (by omega), if_pos (by omega), if_pos (by omega), reads_eq (by omega) x _ hx hy, Option.bind_some]
    have go : ∀ n', dag_Least.j1 (k + 1 + 1 + 1) at_ n' (rd at_ i) l (l.length : Int) (i : Int) x.f0 x.f1 x.f2 x.f3 x.f4 x.f5 (q24 l i).f0 (q24 l i).f1 (q24 l i).f2 (q24 l i).f3 (q24 l i).f4 (q24 l i).f5 = some (lastUp l at_ x d (i + 1) (step3 x (q24 l i) (rd at_ i) (step2 x (q24 l i) (rd at_ i) n'))) := fun n' => by
      rw [own_j1 (by omega) x _ hx hy at_ l n' _ _ i (by omega)]
      exact own_last l hl ho x hx at_ ha d k (i + 1) _ (by omega) (by omega)
    show _ = some (lastUp l at_ x d (i + 1) (step3 x (q24 l i) (rd at_ i) (step2 x (q24 l i) (rd at_ i) (step1 x (q24 l i) (rd at_ i) n))))
    unfold step1
    cases rdsP x (q24 l i) with
    | false => rw [if_neg (by decide), if_neg (by decide)]; exact go n
    | true => rw [if_pos rfl, if_pos rfl, late_eq (by omega) _ hy.1 hy.2, Option.bind_some]; exact go _
theorem least_eq {k : Nat} (l : List S24) (hl : l.length ≤ 1000) (ho : okL l) (x : S24) (hx : 0 ≤ x.f0 ∧ x.f0 ≤ 33) (at_ : List Int) (ha : at_.length = l.length) (hk : 5000 ≤ k) : dag_Least.f k l x.f0 x.f1 x.f2 x.f3 x.f4 x.f5 at_ = some (lastOf l x at_) := by
  unfold dag_Least.f lastOf
  by_cases h : x.f0 = 0
  · rw [if_pos h, if_pos h]
  · rw [if_neg h, if_neg h]
    exact own_last l hl ho x hx at_ ha l.length k 0 0 (by omega) (by omega)
theorem rds_w (x y : S24) (hy : okI y = true) : (decide (wOf y ≥ 0) && (readsL x).any (fun r => wOf y == r)) = rdsP x y := by
  have dy := okI_d hy
  unfold rdsP wOf
  cases hasD (formOf y.f0) with
  | true => rw [if_pos rfl, decide_eq_true dy]
  | false => rw [if_neg (by decide), decide_eq_false (by omega)]; rfl
theorem ref_j4 {k : Nat} (hk : 40 ≤ k) (x y : S24) (at_ : List Int) (l : List S24) (n c : Int) (i : Nat) (hi : i ≤ 1000000) :
    r13_Last.j4 (k + 1) l at_ n (x.f0 == 33) (i : Int) c (lateOp y.f0) x.f0 x.f1 x.f2 x.f3 x.f4 x.f5 = r13_Last.l0 k l at_ (step3 x y c n) (x.f0 == 33) ((i + 1 : Nat) : Int) x.f0 x.f1 x.f2 x.f3 x.f4 x.f5 := by
  rw [r13_Last.j4, wrap_at (by omega)]
  unfold step3
  by_cases h : x.f0 = 33
  · rw [if_pos (by simpa using h), if_pos h]
  · rw [if_neg (by simpa using h), if_neg h]
theorem ref_j2 {k : Nat} (hk : 40 ≤ k) (x : S24) (hx : 0 ≤ x.f0 ∧ x.f0 ≤ 33) (at_ : List Int) (l : List S24) (n c : Int) (i : Nat) (hi : i ≤ 1000000) (hil : i < l.length) (hy : 0 ≤ (q24 l i).f0 ∧ (q24 l i).f0 ≤ 33) :
    r13_Last.j2 (k + 1 + 1 + 1) l at_ n (x.f0 == 33) (i : Int) c (lateOp (q24 l i).f0) x.f0 x.f1 x.f2 x.f3 x.f4 x.f5 = r13_Last.l0 k l at_ (step3 x (q24 l i) c (step2 x (q24 l i) c n)) (x.f0 == 33) ((i + 1 : Nat) : Int) x.f0 x.f1 x.f2 x.f3 x.f4 x.f5 := by
  rw [r13_Last.j2]
  unfold step2
  by_cases h : x.f0 = 33
  · rw [if_pos (by simpa using h), r13_Last.j3, if_pos rfl, decide_eq_true h, Bool.true_or, if_pos rfl]
    exact ref_j4 hk x _ at_ l _ c i hi
  · rw [if_neg (by simpa using h), reff_eq _ hx.1 hx.2, Option.bind_some, decide_eq_false h, Bool.false_or]
    cases effOp x.f0 with
    | false =>
      rw [if_neg (by decide), r13_Last.j3, if_neg (by decide), Bool.false_and, if_neg (by decide)]
      exact ref_j4 hk x _ at_ l _ c i hi
    | true =>
      rw [if_pos rfl, if_pos (by omega), if_pos (by omega), reff_eq _ hy.1 hy.2, Option.bind_some, r13_Last.j3, Bool.true_and]
      cases effOp (q24 l i).f0 with
      | false =>
        rw [if_neg (by decide), if_neg (by decide)]
        exact ref_j4 hk x _ at_ l _ c i hi
      | true =>
        rw [if_pos rfl, if_pos rfl]
        exact ref_j4 hk x _ at_ l _ c i hi
theorem ref_last (l : List S24) (hl : l.length ≤ 1000) (ho : okL l) (x : S24) (hx : 0 ≤ x.f0 ∧ x.f0 ≤ 33) (at_ : List Int) (ha : at_.length = l.length) : ∀ (d k i : Nat) (n : Int), i + d = l.length → 100 + 5 * d ≤ k →
    r13_Last.l0 k l at_ n (x.f0 == 33) (i : Int) x.f0 x.f1 x.f2 x.f3 x.f4 x.f5 = some (lastUp l at_ x d i n)
  | 0, k, i, n, hi, hk => by
    obtain ⟨k, rfl⟩ : ∃ k', k = k' + 1 := ⟨k - 1, by omega⟩
    rw [r13_Last.l0, if_neg (by omega)]; rfl
  | d + 1, k, i, n, hi, hk => by
    obtain ⟨k, rfl⟩ : ∃ k', k = k' + 1 + 1 + 1 + 1 + 1 := ⟨k - 5, by omega⟩
    have hoi := ho i (by omega)
    have hy := okI_op hoi
    have go : ∀ n', r13_Last.j2 (k + 1 + 1 + 1) l at_ n' (x.f0 == 33) (i : Int) (rd at_ i) (lateOp (q24 l i).f0) x.f0 x.f1 x.f2 x.f3 x.f4 x.f5 = some (lastUp l at_ x d (i + 1) (step3 x (q24 l i) (rd at_ i) (step2 x (q24 l i) (rd at_ i) n'))) := fun n' => by
      rw [ref_j2 (by omega) x hx at_ l n' _ i (by omega) (by omega) hy]
      exact ref_last l hl ho x hx at_ ha d k (i + 1) _ (by omega) (by omega)
    rw [r13_Last.l0, if_pos (by omega), if_pos (by omega), if_pos (by omega), rlate_eq (by omega) _ hy.1 hy.2, Option.bind_some, rwrites_eq _ hy.1 hy.2, Option.bind_some]
    show _ = some (lastUp l at_ x d (i + 1) (step3 x (q24 l i) (rd at_ i) (step2 x (q24 l i) (rd at_ i) (step1 x (q24 l i) (rd at_ i) n))))
    unfold step1
    rw [← rds_w x _ hoi]
    by_cases hw : wOf (q24 l i) ≥ 0
    · obtain ⟨r, e1, q1⟩ := in_eq (show 5 ≤ k + 1 + 1 + 1 + 1 by omega) x (wOf (q24 l i))
      rw [if_pos hw, rreads_eq (by omega) x hx.1 hx.2, Option.bind_some, e1, Option.bind_some, q1, decide_eq_true hw, Bool.true_and, r13_Last.j1]
      cases (readsL x).any (fun r => wOf (q24 l i) == r) with
      | false => rw [if_neg (by decide), if_neg (by decide)]; exact go n
      | true => rw [if_pos rfl, if_pos rfl]; exact go _
    · rw [if_neg hw, decide_eq_false hw, Bool.false_and, r13_Last.j1, if_neg (by decide), if_neg (by decide)]
      exact go n
theorem rlast_eq {k : Nat} (l : List S24) (hl : l.length ≤ 1000) (ho : okL l) (x : S24) (hx : 0 ≤ x.f0 ∧ x.f0 ≤ 33) (at_ : List Int) (ha : at_.length = l.length) (hk : 6000 ≤ k) : r13_Last.f k l x.f0 x.f1 x.f2 x.f3 x.f4 x.f5 at_ = some (lastOf l x at_) := by
  unfold r13_Last.f lastOf
  by_cases h : x.f0 = 0
  · rw [if_pos h, if_pos h]
  · rw [if_neg h, if_neg h]
    exact ref_last l hl ho x hx at_ ha l.length k 0 0 (by omega) (by omega)
def lateC (v : Int) : Bool := decide (v < 0) || decide (v > 800)
theorem late1_eq (v : Int) : dag_Last_1.f v = some (lateC v) := by
  unfold dag_Last_1.f lateC
  by_cases h : v < 0
  · rw [if_pos h, decide_eq_true h]; rfl
  · rw [if_neg h, decide_eq_false h, Bool.false_or]
theorem index61_loop (l : List Int) (hl : l.length ≤ 100000000) : ∀ (d k i : Nat), i + d = l.length → 1 + d ≤ k → ∃ r, sI_61.l0 k l (l.length : Int) (i : Int) = some r ∧ decide (r ≥ 0) = (l.drop i).any lateC
  | 0, k, i, hi, hk => by
    obtain ⟨k, rfl⟩ : ∃ k', k = k' + 1 := ⟨k - 1, by omega⟩
    refine ⟨-1, ?_, ?_⟩
    · rw [sI_61.l0, if_neg (by omega)]
    · rw [List.drop_of_length_le (by omega)]; simp
  | d + 1, k, i, hi, hk => by
    obtain ⟨k, rfl⟩ : ∃ k', k = k' + 1 := ⟨k - 1, by omega⟩
    have hlt : i < l.length := by omega
    rw [sI_61.l0, if_pos (by omega), if_pos (by omega), if_pos (by omega), late1_eq, Option.bind_some, wrap_at (by omega), List.drop_eq_getElem_cons hlt, List.any_cons, rd_nat l i hlt]
    cases h : lateC l[i] with
    | true => rw [if_pos rfl]; exact ⟨_, rfl, by simp⟩
    | false =>
      rw [if_neg (by decide)]
      obtain ⟨r, h2, h3⟩ := index61_loop l hl d k (i + 1) (by omega) (by omega)
      exact ⟨r, h2, by rw [h3]; rfl⟩
theorem contains61_eq {k : Nat} (l : List Int) (hl : l.length ≤ 1000000) (hk : 1000001 ≤ k) : sC_61.f k l = some (l.any lateC) := by
  unfold sC_61.f sI_61.f
  obtain ⟨r, h1, h2⟩ := index61_loop l (by omega) l.length k 0 (by omega) (by omega)
  rw [show ((0 : Nat) : Int) = 0 from rfl] at h1
  rw [h1, Option.bind_some, h2]; rfl
def goodL (l : List S24) (x : S24) (at_ : List Int) : Bool := mayL l && (!(at_.any lateC) && (okI x && (endsOp x.f0 || x.f0 == 0)))
theorem dlast_eq {k : Nat} (l : List S24) (hl : l.length ≤ 1000000) (x : S24) (at_ : List Int) (ha : at_.length = l.length) (hk : 2000000 ≤ k) :
    dag_Last.f k l x.f0 x.f1 x.f2 x.f3 x.f4 x.f5 at_ = some (if goodL l x at_ = true then (lastOf l x at_, 0) else (0, 1)) := by
  obtain ⟨k, rfl⟩ : ∃ k', k = k' + 1 := ⟨k - 1, by omega⟩
  unfold dag_Last.f goodL
  rw [may_eq l (by omega) (by omega), Option.bind_some]
  cases hm : mayL l with
  | false => rw [if_neg (by decide), dag_Last.j0, if_pos rfl]; rfl
  | true =>
    obtain ⟨h1, h2⟩ := plain_ok hm
    rw [if_pos rfl, if_pos (by omega), contains61_eq at_ (by omega) (by omega), Option.bind_some]
    cases at_.any lateC with
    | true => rw [if_pos rfl, dag_Last.j0, if_pos rfl]; rfl
    | false =>
      rw [if_neg (by decide), isa_ins_eq (by omega), Option.bind_some]
      show (if okI x = true then _ else _) = _
      cases hx : okI x with
      | false => rw [if_neg (by decide), dag_Last.j0, if_pos rfl]; rfl
      | true =>
        have hxx := okI_op hx
        have fin : dag_Last.j0 (k + 1) l at_ false x.f0 x.f1 x.f2 x.f3 x.f4 x.f5 = some (lastOf l x at_, 0) := by
          rw [dag_Last.j0, if_neg (by decide), least_eq l (by omega) (okA_L h2) x hxx at_ ha (by omega)]; rfl
        rw [if_pos rfl, ends_eq, Option.bind_some]
        cases endsOp x.f0 with
        | true => rw [if_pos rfl, fin]; rfl
        | false =>
          rw [if_neg (by decide)]
          by_cases h0 : x.f0 = 0
          · rw [show (x.f0 != 0) = false by simp [h0], fin, show (x.f0 == 0) = true by simp [h0]]; rfl
          · rw [show (x.f0 != 0) = true by simp [h0], show (x.f0 == 0) = false by simp [h0], dag_Last.j0, if_pos rfl]; rfl
theorem dlast_long {k : Nat} (l : List S24) (hl : l.length ≤ 1000000) (at_ : List Int) (ha : at_.length = l.length) (hk : 2000000 ≤ k) :
    dag_Last.f k l 0 0 0 0 0 (⟨#[]⟩ : ByteArray) (at_ ++ [0]) = some (0, 1) := by
  obtain ⟨k, rfl⟩ : ∃ k', k = k' + 1 := ⟨k - 1, by omega⟩
  unfold dag_Last.f
  rw [may_eq l (by omega) (by omega), Option.bind_some]
  cases mayL l with
  | false => rw [if_neg (by decide), dag_Last.j0, if_pos rfl]
  | true => rw [if_pos rfl, if_neg (by simp; omega), dag_Last.j0, if_pos rfl]
theorem copyn_loop (l : List Int) (hl : l.length ≤ 1000000000) : ∀ (d k i : Nat) (acc : List Int), i + d = l.length → acc.length = i → 1 + d ≤ k → r0_CopyNumbers.l0 k l acc (i : Int) = some (acc ++ l.drop i)
  | 0, k, i, acc, hi, ha, hk => by
    obtain ⟨k, rfl⟩ : ∃ k', k = k' + 1 := ⟨k - 1, by omega⟩
    rw [r0_CopyNumbers.l0, if_neg (by omega), List.drop_of_length_le (by omega), List.append_nil]
  | d + 1, k, i, acc, hi, ha, hk => by
    obtain ⟨k, rfl⟩ : ∃ k', k = k' + 1 := ⟨k - 1, by omega⟩
    have hlt : i < l.length := by omega
    rw [r0_CopyNumbers.l0, if_pos (by omega), if_pos (by omega), if_pos (by omega), wrap_at (by omega), copyn_loop l hl d k (i + 1) _ (by omega) (by simp; omega) (by omega), rd_nat l i hlt, List.append_assoc, List.drop_eq_getElem_cons hlt]; rfl
theorem copyn_eq {k : Nat} (l : List Int) (hl : l.length ≤ 1000000) (hk : 2000000 ≤ k) : r0_CopyNumbers.f k l = some l := by
  unfold r0_CopyNumbers.f
  have := copyn_loop l (by omega) l.length k 0 [] (by omega) rfl (by omega)
  simpa using this
section
variable (L : List (List S24)) (E : List S24) (lI : List S24) (c0 c1 c2 c3 c4 : Int) (s : ByteArray) (lN : List Int)
theorem last_l3 (i n : Nat) (at_ : List Int) (h : at_.length ≤ 1000000) (cp : List Int) (r e : Int) : ∀ (d j : Nat) (g : Bool) (k : Nat), j + d = at_.length →
    w14_DagLast.l3 (k + d) L E (i : Int) at_ (n : Int) cp r e g (j : Int) lI c0 c1 c2 c3 c4 s lN = w14_DagLast.l3 k L E (i : Int) at_ (n : Int) cp r e (g && !((at_.drop j).any lateC)) (at_.length : Int) lI c0 c1 c2 c3 c4 s lN
  | 0, j, g, k, hj => by
    obtain rfl : j = at_.length := by omega
    rw [List.drop_of_length_le (Nat.le_refl _)]; simp
  | d + 1, j, g, k, hj => by
    have hlt : j < at_.length := by omega
    rw [show k + (d + 1) = (k + d) + 1 by omega, w14_DagLast.l3, if_pos (by omega), wrap_at (by omega), List.drop_eq_getElem_cons hlt, List.any_cons]
    cases g with
    | false => rw [if_neg (by decide), last_l3 i n at_ h cp r e d (j + 1) false k (by omega)]; rfl
    | true =>
      rw [if_pos rfl, if_pos (by omega)]
      have hn : r0_Num.f (rd at_ j) 800 = some (!lateC at_[j]) := by
        unfold r0_Num.f lateC
        rw [rd_nat at_ j hlt]
        by_cases h0 : at_[j] ≥ 0
        · rw [if_pos h0, decide_eq_false (show ¬ at_[j] < 0 by omega), Bool.false_or]
          by_cases h8 : at_[j] ≤ 800
          · rw [decide_eq_true h8, decide_eq_false (show ¬ at_[j] > 800 by omega)]; rfl
          · rw [decide_eq_false h8, decide_eq_true (show at_[j] > 800 by omega)]; rfl
        · rw [if_neg h0, decide_eq_true (show at_[j] < 0 by omega)]; rfl
      rw [hn, Option.bind_some, last_l3 i n at_ h cp r e d (j + 1) _ k (by omega)]
      cases lateC at_[j] <;> simp
theorem last_round {k : Nat} (hk : 20000000 ≤ k) (i n : Nat) (hi : i < L.length) (hL : L.length ≤ 100) (hn : n < E.length) (hE : E.length ≤ 100) (l : List S24) (hl : rd_L5 L (i : Int) = l) (hb : l.length ≤ 1000000) (at_ : List Int) (ha : at_.length = l.length) :
    w14_DagLast.l2 (k + 1 + 1 + 1 + at_.length + 1 + 1) L E (i : Int) at_ (n : Int) lI c0 c1 c2 c3 c4 s lN = w14_DagLast.l2 k L E (i : Int) at_ ((n + 1 : Nat) : Int) lI c0 c1 c2 c3 c4 s lN := by
  rw [w14_DagLast.l2, if_pos (by omega), copyn_eq at_ (by omega) (by omega), Option.bind_some, if_pos (by omega), if_pos (by omega), if_pos (by omega), hl, dlast_eq l hb (q24 E n) at_ ha (by omega), Option.bind_some, straight_eq l (by omega) (by omega), Option.bind_some]
  have go : ∀ (g : Bool), (g && !(at_.any lateC)) = goodL l (q24 E n) at_ → w14_DagLast.j4 (k + 1 + 1 + 1 + at_.length + 1) L E (i : Int) at_ (n : Int) at_ (if goodL l (q24 E n) at_ = true then (lastOf l (q24 E n) at_, (0 : Int)) else (0, 1)).1 (if goodL l (q24 E n) at_ = true then (lastOf l (q24 E n) at_, (0 : Int)) else (0, 1)).2 g lI c0 c1 c2 c3 c4 s lN
      = w14_DagLast.l2 k L E (i : Int) at_ ((n + 1 : Nat) : Int) lI c0 c1 c2 c3 c4 s lN := fun g hg => by
    have h3 := last_l3 L E lI c0 c1 c2 c3 c4 s lN i n at_ (by omega) at_ (if goodL l (q24 E n) at_ = true then (lastOf l (q24 E n) at_, (0 : Int)) else (0, 1)).1 (if goodL l (q24 E n) at_ = true then (lastOf l (q24 E n) at_, (0 : Int)) else (0, 1)).2 at_.length 0 g (k + 1 + 1 + 1) (by omega)
    rw [List.drop_zero, hg, show ((0 : Nat) : Int) = 0 from rfl] at h3
    rw [w14_DagLast.j4, h3, w14_DagLast.l3, if_neg (by omega)]
    have fin : ∀ (r e : Int), w14_DagLast.j6 (k + 1 + 1) L E (i : Int) at_ (n : Int) at_ r e e r lI c0 c1 c2 c3 c4 s lN = w14_DagLast.l2 k L E (i : Int) at_ ((n + 1 : Nat) : Int) lI c0 c1 c2 c3 c4 s lN := fun r e => by
      rw [w14_DagLast.j6]
      unfold w14_num.f
      rw [Option.bind_some, if_pos rfl, if_pos rfl, eqnums_eq at_ (by omega) (by omega), Option.bind_some, w14_DagLast.j7, if_neg (by decide), wrap_at (by omega)]
    cases hg2 : goodL l (q24 E n) at_ with
    | false => rw [if_neg (by decide), if_neg (by decide)]; exact fin 0 1
    | true =>
      unfold goodL at hg2
      simp only [Bool.and_eq_true] at hg2
      obtain ⟨h1, h2⟩ := plain_ok hg2.1
      rw [if_pos rfl, if_pos rfl, if_pos (by omega), if_pos (by omega), if_pos (by omega), if_pos (by omega), hl, rlast_eq l (by omega) (okA_L h2) (q24 E n) (okI_op hg2.2.2.1) at_ ha (by omega), Option.bind_some]
      exact fin _ 0
  have hg0 : ∀ g : Bool, goodL l (q24 E n) at_ = ((mayL l && (okI (q24 E n) && (endsOp (q24 E n).f0 || (q24 E n).f0 == 0))) && !(at_.any lateC)) := fun _ => by
    unfold goodL
    cases mayL l <;> cases at_.any lateC <;> simp
  cases hm : mayL l with
  | false => rw [if_neg (by decide)]; exact go false (by rw [hg0 true, hm]; rfl)
  | true =>
    rw [if_pos rfl, ref_ins_eq (by omega), Option.bind_some]
    show (if okI (q24 E n) = true then _ else _) = _
    cases hx : okI (q24 E n) with
    | false => rw [if_neg (by decide)]; exact go false (by rw [hg0 true, hm, hx]; rfl)
    | true =>
      rw [if_pos rfl, rends_eq, Option.bind_some]
      cases he : endsOp (q24 E n).f0 with
      | true => rw [if_pos rfl]; exact go true (by rw [hg0 true, hm, hx, he]; rfl)
      | false => rw [if_neg (by decide)]; exact go _ (by rw [hg0 true, hm, hx, he]; simp)
theorem last_l2 {K : Nat} (hK : 20000000 ≤ K) (i : Nat) (hi : i < L.length) (hL : L.length ≤ 100) (hE : E.length ≤ 100) (l : List S24) (hl : rd_L5 L (i : Int) = l) (hb : l.length ≤ 1000000) (at_ : List Int) (ha : at_.length = l.length)
    (next : ∀ k, K ≤ k → w14_DagLast.l0 k L E ((i + 1 : Nat) : Int) lI c0 c1 c2 c3 c4 s lN = some true) : ∀ (d n k : Nat), n + d = E.length → K + 1 + d * (at_.length + 5) ≤ k → w14_DagLast.l2 k L E (i : Int) at_ (n : Int) lI c0 c1 c2 c3 c4 s lN = some true
  | 0, n, k, hn, hk => by
    obtain ⟨k, rfl⟩ : ∃ k', k = k' + 1 := ⟨k - 1, by omega⟩
    rw [w14_DagLast.l2, if_neg (by omega), if_pos (by omega), if_pos (by omega), copyn_eq at_ (by omega) (by omega), Option.bind_some, Option.bind_some, if_pos (by simp; omega), hl, dlast_long l hb at_ ha (by omega), Option.bind_some]
    unfold w14_num.f
    rw [Option.bind_some, if_pos rfl, wrap_at (by omega)]
    exact next k (by omega)
  | d + 1, n, k, hn, hk => by
    rw [Nat.succ_mul] at hk
    obtain ⟨k, rfl⟩ : ∃ k', k = k' + 1 + 1 + 1 + at_.length + 1 + 1 := ⟨k - (at_.length + 5), by omega⟩
    rw [last_round L E lI c0 c1 c2 c3 c4 s lN (by omega) i n hi hL (by omega) hE l hl hb at_ ha]
    exact last_l2 hK i hi hL hE l hl hb at_ ha next d (n + 1) k (by omega) (by omega)
theorem last_l1 {K : Nat} (i m : Nat) (hm : m ≤ 1000000) (hN : lN.length ≤ 1000000000) (next : ∀ (a : List Int) (k : Nat), a.length = m → K ≤ k → w14_DagLast.j2 k L E (i : Int) a lI c0 c1 c2 c3 c4 s lN = some true) :
    ∀ (d j : Nat) (a : List Int) (k : Nat), a.length = m → j + d = m → K + d + 1 ≤ k → w14_DagLast.l1 k L E (i : Int) a (j : Int) lI c0 c1 c2 c3 c4 s lN = some true
  | 0, j, a, k, ha, hj, hk => by
    obtain ⟨k, rfl⟩ : ∃ k', k = k' + 1 := ⟨k - 1, by omega⟩
    rw [w14_DagLast.l1, if_neg (by omega)]
    exact next a k ha (by omega)
  | d + 1, j, a, k, ha, hj, hk => by
    obtain ⟨k, rfl⟩ : ∃ k', k = k' + 1 := ⟨k - 1, by omega⟩
    rw [w14_DagLast.l1, if_pos (by omega)]
    by_cases h0 : (lN.length : Int) > 0
    · have hd : Int.tmod (j : Int) (lN.length : Int) = ((j % lN.length : Nat) : Int) := by rw [Int.tmod_eq_emod_of_nonneg (by omega)]; omega
      have hlt : j % lN.length < lN.length := Nat.mod_lt _ (by omega)
      rw [if_pos h0, if_neg (by omega), hd, if_pos (by omega), if_pos (by omega), if_pos (by omega), wrap_at (by omega)]
      exact last_l1 i m hm hN next d (j + 1) _ k (by simp [ha]) (by omega) (by omega)
    · rw [if_neg h0]
      exact next a k ha (by omega)
theorem last_l0 {K : Nat} (hK : 20000000 ≤ K) (i : Nat) (hi : i < L.length) (hL : L.length ≤ 100) (hE : E.length = 7) (hN : lN.length ≤ 1000000000) (l : List S24) (hl : rd_L5 L (i : Int) = l) (hb : l.length ≤ 1000000)
    (next : ∀ k, K ≤ k → w14_DagLast.l0 k L E ((i + 1 : Nat) : Int) lI c0 c1 c2 c3 c4 s lN = some true) (k : Nat) (hk : K + 10 * (l.length + 10) ≤ k) : w14_DagLast.l0 k L E (i : Int) lI c0 c1 c2 c3 c4 s lN = some true := by
  obtain ⟨k, rfl⟩ : ∃ k', k = k' + 1 := ⟨k - 1, by omega⟩
  rw [w14_DagLast.l0, if_pos (by omega), if_pos (by omega), hl, if_pos (by omega), if_pos (by omega), Int.toNat_natCast]
  refine last_l1 L E lI c0 c1 c2 c3 c4 s lN (K := K + 2 + 7 * (l.length + 5)) i l.length hb hN (fun a k ha hk => ?_) l.length 0 _ k (by simp) (by omega) (by omega)
  obtain ⟨k, rfl⟩ : ∃ k', k = k' + 1 := ⟨k - 1, by omega⟩
  rw [w14_DagLast.j2]
  exact last_l2 L E lI c0 c1 c2 c3 c4 s lN hK i hi hL (by omega) l hl hb a ha next 7 0 k (by omega) (by rw [ha]; omega)
end
theorem last_true (lI : List S24) (x : S24) (lN : List Int) (hin : InAsk lI x lN) : w14_DagLast.f (40000000 + 100 * lI.length) lI x.f0 x.f1 x.f2 x.f3 x.f4 x.f5 lN = some true := by
  obtain ⟨⟨hI, hQ⟩, _, ⟨hN, _⟩⟩ := hin
  obtain ⟨t, t1, t2, t3⟩ := weight_loop lI (by omega) (fun y hy => (hQ y hy).2.2.2.2.2) lI.length (40000000 + 100 * lI.length) 0 (lI.length : Int) (by omega) (by omega) (by omega) (by omega)
  unfold w14_DagLast.f w14_Heavy.f w0_CodesWeight.f
  rw [show (0 : Int) = ((0 : Nat) : Int) from rfl, t3, Option.bind_some, Option.bind_some]
  have e1 : wrap64 (t + (lN.length : Int)) = t + (lN.length : Int) := by unfold wrap64; omega
  rw [e1]
  by_cases h : t + (lN.length : Int) > 300
  · rw [if_pos (decide_eq_true h)]
  · rw [if_neg (by simpa using h)]
    obtain ⟨r, hr, h2⟩ := rows_eq (k := 40000000 + 100 * lI.length) lI (by omega) x.f0 x.f1 x.f2 x.f3 x.f4 x.f5 lN (by omega)
    rw [h2, Option.bind_some]
    have hlen : (rowsOf lI r).length = 4 := rfl
    obtain ⟨g0, g1, g2, g3⟩ := rd_rows lI r
    refine last_l0 (rowsOf lI r) _ lI x.f0 x.f1 x.f2 x.f3 x.f4 x.f5 lN (K := 30000000) (by omega) 0 (by omega) (by omega) rfl (by omega) _ g0 (by omega) (fun k hk => ?_) _ (by omega)
    refine last_l0 (rowsOf lI r) _ lI x.f0 x.f1 x.f2 x.f3 x.f4 x.f5 lN (K := 29000000) (by omega) 1 (by omega) (by omega) rfl (by omega) _ g1 (by omega) (fun k hk => ?_) _ (by omega)
    refine last_l0 (rowsOf lI r) _ lI x.f0 x.f1 x.f2 x.f3 x.f4 x.f5 lN (K := 28000000) (by omega) 2 (by omega) (by omega) rfl (by omega) _ g2 (by simp; omega) (fun k hk => ?_) _ (by simp; omega)
    refine last_l0 (rowsOf lI r) _ lI x.f0 x.f1 x.f2 x.f3 x.f4 x.f5 lN (K := 27000000) (by omega) 3 (by omega) (by omega) rfl (by omega) _ g3 (by simp) (fun k hk => ?_) _ (by simp; omega)
    obtain ⟨k, rfl⟩ : ∃ k', k = k' + 1 := ⟨k - 1, by omega⟩
    rw [w14_DagLast.l0, if_neg (by omega), wakes_eq (by omega)]
    rfl
theorem last_walk : LawWalk 7 := by
  intro A0 c0 lI x A1 c1 lN w g0 b0 g1 b1 hin
  exact w14_DagLast.calls (40000000 + 100 * lI.length) A0 c0 lI x.f0 x.f1 x.f2 x.f3 x.f4 x.f5 A1 c1 lN true w g0 b0 g1 b1 (last_true lI x lN hin)
end Go.Proofs.Ytibfkkjkahpobaa.PDag
