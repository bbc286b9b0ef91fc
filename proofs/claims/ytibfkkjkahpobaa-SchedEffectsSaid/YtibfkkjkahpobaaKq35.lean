import Derived.Test.YtibfkkjkahpobaaKq34
import Derived.Test.YtibfkkjkahpobaaKq28
import Derived.Test.YtibfkkjkahpobaaKq29
import Derived.Test.YtibfkkjkahpobaaKq30
set_option linter.unusedVariables false
set_option linter.unusedSimpArgs false
open Go.RowKit Go.Proofs.YtibfkkjkahpobaaW.PrintWords Go.Proofs.YtibfkkjkahpobaaW.PrintLast Go.Proofs.YtibfkkjkahpobaaW.PrintMore
section
namespace Go.Proofs.Ytibfkkjkahpobaa.PDag
def step1 (x y : S24) (c n : Int) : Int := if rdsP x y = true then mx n (wrap64 (c + lateOp y.f0)) else n
def step2 (x y : S24) (c n : Int) : Int := if (decide (x.f0 = 33) || (effOp x.f0 && effOp y.f0)) = true then mx n (wrap64 (c + 1)) else n
def step3 (x y : S24) (c n : Int) : Int := if x.f0 = 33 then n else mx (mx n (wrap64 (c - 2))) (wrap64 ((wrap64 ((wrap64 (c + lateOp y.f0)) - 2)) - 1))
def lastUp (l : List S24) (at_ : List Int) (x : S24) : Nat → Nat → Int → Int
  | 0, _, n => n
  | d + 1, i, n => lastUp l at_ x d (i + 1) (step3 x (q24 l i) (rd at_ i) (step2 x (q24 l i) (rd at_ i) (step1 x (q24 l i) (rd at_ i) n)))
def lastOf (l : List S24) (x : S24) (at_ : List Int) : Int := if x.f0 = 0 then 0 else lastUp l at_ x l.length 0 0
theorem own_j3 {k : Nat} (hk : 40 ≤ k) (x y : S24) (hx : 0 ≤ x.f0 ∧ x.f0 ≤ 33) (hy : 0 ≤ y.f0 ∧ y.f0 ≤ 33) (at_ : List Int) (l : List S24) (n c m : Int) (i : Nat) (hi : i ≤ 1000000) :
    dag_Least.j3 (k + 1) at_ n c l m (i : Int) x.f0 x.f1 x.f2 x.f3 x.f4 x.f5 y.f0 y.f1 y.f2 y.f3 y.f4 y.f5 = dag_Least.l0 k at_ (step3 x y c n) l m ((i + 1 : Nat) : Int) x.f0 x.f1 x.f2 x.f3 x.f4 x.f5 := by
  rw [dag_Least.j3, wrap_at (by omega)]
  unfold step3
  by_cases h : x.f0 = 33
  · rw [if_pos h, if_pos h]
  · rw [if_neg h, if_neg h, late_eq (by omega) _ hy.1 hy.2, Option.bind_some]
theorem own_j1 {k : Nat} (hk : 40 ≤ k) (x y : S24) (hx : 0 ≤ x.f0 ∧ x.f0 ≤ 33) (hy : 0 ≤ y.f0 ∧ y.f0 ≤ 33) (at_ : List Int) (l : List S24) (n c m : Int) (i : Nat) (hi : i ≤ 1000000) :
    dag_Least.j1 (k + 1 + 1 + 1) at_ n c l m (i : Int) x.f0 x.f1 x.f2 x.f3 x.f4 x.f5 y.f0 y.f1 y.f2 y.f3 y.f4 y.f5 = dag_Least.l0 k at_ (step3 x y c (step2 x y c n)) l m ((i + 1 : Nat) : Int) x.f0 x.f1 x.f2 x.f3 x.f4 x.f5 := by
  rw [dag_Least.j1]
  unfold step2
  by_cases h : x.f0 = 33
  · rw [if_pos h, dag_Least.j2, if_pos rfl, decide_eq_true h, Bool.true_or, if_pos rfl]
    exact own_j3 hk x y hx hy at_ l _ c m i hi
  · rw [if_neg h, eff_eq (by omega) _ hx.1 hx.2, Option.bind_some, decide_eq_false h, Bool.false_or]
    cases effOp x.f0 with
    | false =>
      rw [if_neg (by decide), dag_Least.j2, if_neg (by decide), Bool.false_and, if_neg (by decide)]
      exact own_j3 hk x y hx hy at_ l _ c m i hi
    | true =>
      rw [if_pos rfl, eff_eq (by omega) _ hy.1 hy.2, Option.bind_some, dag_Least.j2, Bool.true_and]
      cases effOp y.f0 with
      | false =>
        rw [if_neg (by decide), if_neg (by decide)]
        exact own_j3 hk x y hx hy at_ l _ c m i hi
      | true =>
        rw [if_pos rfl, if_pos rfl]
        exact own_j3 hk x y hx hy at_ l _ c m i hi
theorem own_last (l : List S24) (hl : l.length ≤ 1000) (ho : okL l) (x : S24) (hx : 0 ≤ x.f0 ∧ x.f0 ≤ 33) (at_ : List Int) (ha : at_.length = l.length) : ∀ (d k i : Nat) (n : Int), i + d = l.length → 100 + 4 * d ≤ k →
    dag_Least.l0 k at_ n l (l.length : Int) (i : Int) x.f0 x.f1 x.f2 x.f3 x.f4 x.f5 = some (lastUp l at_ x d i n)
  | 0, k, i, n, hi, hk => by
    obtain ⟨k, rfl⟩ : ∃ k', k = k' + 1 := ⟨k - 1, by omega⟩
    rw [dag_Least.l0, if_neg (by omega)]; rfl
  | d + 1, k, i, n, hi, hk => by
    obtain ⟨k, rfl⟩ : ∃ k', k = k' + 1 + 1 + 1 + 1 := ⟨k - 4, by omega⟩
    have hy := okI_op (ho i (by omega))
    rw [dag_Least.l0, if_pos (by omega), if_pos (by omega), if_pos (by omega), if_pos (by omega), reads_eq (by omega) x _ hx hy, Option.bind_some]
    have go : ∀ n', dag_Least.j1 (k + 1 + 1 + 1) at_ n' (rd at_ i) l (l.length : Int) (i : Int) x.f0 x.f1 x.f2 x.f3 x.f4 x.f5 (q24 l i).f0 (q24 l i).f1 (q24 l i).f2 (q24 l i).f3 (q24 l i).f4 (q24 l i).f5 = some (lastUp l at_ x d (i + 1) (step3 x (q24 l i) (rd at_ i) (step2 x (q24 l i) (rd at_ i) n'))) := fun n' => by
      rw [own_j1 (by omega) x _ hx hy at_ l n' _ _ i (by omega)]
      exact own_last l hl ho x hx at_ ha d k (i + 1) _ (by omega) (by omega)
    show _ = some (lastUp l at_ x d (i + 1) (step3 x (q24 l i) (rd at_ i) (step2 x (q24 l i) (rd at_ i) (step1 x (q24 l i) (rd at_ i) n))))
    unfold step1
    cases rdsP x (q24 l i) with
    | false => rw [if_neg (by decide), if_neg (by decide)]; exact go n
    | true => rw [if_pos rfl, if_pos rfl, late_eq (by omega) _ hy.1 hy.2, Option.bind_some]; exact go _
theorem least_eq {k : Nat} (l : List S24) (hl : l.length ≤ 1000) (ho : okL l) (x : S24) (hx : 0 ≤ x.f0 ∧ x.f0 ≤ 33) (at_ : List Int) (ha : at_.length = l.length) (hk : 5000 ≤ k) : dag_Least.f k l x.f0 x.f1 x.f2 x.f3 x.f4 x.f5 at_ = some (lastOf l x at_) := by
  unfold dag_Least.f lastOf
  by_cases h : x.f0 = 0
  · rw [if_pos h, if_pos h]
  · rw [if_neg h, if_neg h]
    exact own_last l hl ho x hx at_ ha l.length k 0 0 (by omega) (by omega)
theorem rds_w (x y : S24) (hy : okI y = true) : (decide (wOf y ≥ 0) && (readsL x).any (fun r => wOf y == r)) = rdsP x y := by
  have dy := okI_d hy
  unfold rdsP wOf
  cases hasD (formOf y.f0) with
  | true => rw [if_pos rfl, decide_eq_true dy]
  | false => rw [if_neg (by decide), decide_eq_false (by omega)]; rfl
theorem ref_j4 {k : Nat} (hk : 40 ≤ k) (x y : S24) (at_ : List Int) (l : List S24) (n c : Int) (i : Nat) (hi : i ≤ 1000000) :
    r13_Last.j4 (k + 1) l at_ n (x.f0 == 33) (i : Int) c (lateOp y.f0) x.f0 x.f1 x.f2 x.f3 x.f4 x.f5 = r13_Last.l0 k l at_ (step3 x y c n) (x.f0 == 33) ((i + 1 : Nat) : Int) x.f0 x.f1 x.f2 x.f3 x.f4 x.f5 := by
  rw [r13_Last.j4, wrap_at (by omega)]
  unfold step3
  by_cases h : x.f0 = 33
  · rw [if_pos (by simpa using h), if_pos h]
  · rw [if_neg (by simpa using h), if_neg h]
theorem ref_j2 {k : Nat} (hk : 40 ≤ k) (x : S24) (hx : 0 ≤ x.f0 ∧ x.f0 ≤ 33) (at_ : List Int) (l : List S24) (n c : Int) (i : Nat) (hi : i ≤ 1000000) (hil : i < l.length) (hy : 0 ≤ (q24 l i).f0 ∧ (q24 l i).f0 ≤ 33) :
    r13_Last.j2 (k + 1 + 1 + 1) l at_ n (x.f0 == 33) (i : Int) c (lateOp (q24 l i).f0) x.f0 x.f1 x.f2 x.f3 x.f4 x.f5 = r13_Last.l0 k l at_ (step3 x (q24 l i) c (step2 x (q24 l i) c n)) (x.f0 == 33) ((i + 1 : Nat) : Int) x.f0 x.f1 x.f2 x.f3 x.f4 x.f5 := by
  rw [r13_Last.j2]
  unfold step2
  by_cases h : x.f0 = 33
  · rw [if_pos (by simpa using h), r13_Last.j3, if_pos rfl, decide_eq_true h, Bool.true_or, if_pos rfl]
    exact ref_j4 hk x _ at_ l _ c i hi
  · rw [if_neg (by simpa using h), reff_eq _ hx.1 hx.2, Option.bind_some, decide_eq_false h, Bool.false_or]
    cases effOp x.f0 with
    | false =>
      rw [if_neg (by decide), r13_Last.j3, if_neg (by decide), Bool.false_and, if_neg (by decide)]
      exact ref_j4 hk x _ at_ l _ c i hi
    | true =>
      rw [if_pos rfl, if_pos (by omega), if_pos (by omega), reff_eq _ hy.1 hy.2, Option.bind_some, r13_Last.j3, Bool.true_and]
      cases effOp (q24 l i).f0 with
      | false =>
        rw [if_neg (by decide), if_neg (by decide)]
        exact ref_j4 hk x _ at_ l _ c i hi
      | true =>
        rw [if_pos rfl, if_pos rfl]
        exact ref_j4 hk x _ at_ l _ c i hi
theorem ref_last (l : List S24) (hl : l.length ≤ 1000) (ho : okL l) (x : S24) (hx : 0 ≤ x.f0 ∧ x.f0 ≤ 33) (at_ : List Int) (ha : at_.length = l.length) : ∀ (d k i : Nat) (n : Int), i + d = l.length → 100 + 5 * d ≤ k →
    r13_Last.l0 k l at_ n (x.f0 == 33) (i : Int) x.f0 x.f1 x.f2 x.f3 x.f4 x.f5 = some (lastUp l at_ x d i n)
  | 0, k, i, n, hi, hk => by
    obtain ⟨k, rfl⟩ : ∃ k', k = k' + 1 := ⟨k - 1, by omega⟩
    rw [r13_Last.l0, if_neg (by omega)]; rfl
  | d + 1, k, i, n, hi, hk => by
    obtain ⟨k, rfl⟩ : ∃ k', k = k' + 1 + 1 + 1 + 1 + 1 := ⟨k - 5, by omega⟩
    have hoi := ho i (by omega)
    have hy := okI_op hoi
    have go : ∀ n', r13_Last.j2 (k + 1 + 1 + 1) l at_ n' (x.f0 == 33) (i : Int) (rd at_ i) (lateOp (q24 l i).f0) x.f0 x.f1 x.f2 x.f3 x.f4 x.f5 = some (lastUp l at_ x d (i + 1) (step3 x (q24 l i) (rd at_ i) (step2 x (q24 l i) (rd at_ i) n'))) := fun n' => by
      rw [ref_j2 (by omega) x hx at_ l n' _ i (by omega) (by omega) hy]
      exact ref_last l hl ho x hx at_ ha d k (i + 1) _ (by omega) (by omega)
    rw [r13_Last.l0, if_pos (by omega), if_pos (by omega), if_pos (by omega), rlate_eq (by omega) _ hy.1 hy.2, Option.bind_some, rwrites_eq _ hy.1 hy.2, Option.bind_some]
    show _ = some (lastUp l at_ x d (i + 1) (step3 x (q24 l i) (rd at_ i) (step2 x (q24 l i) (rd at_ i) (step1 x (q24 l i) (rd at_ i) n))))
    unfold step1
    rw [← rds_w x _ hoi]
    by_cases hw : wOf (q24 l i) ≥ 0
    · obtain ⟨r, e1, q1⟩ := in_eq (show 5 ≤ k + 1 + 1 + 1 + 1 by omega) x (wOf (q24 l i))
      rw [if_pos hw, rreads_eq (by omega) x hx.1 hx.2, Option.bind_some, e1, Option.bind_some, q1, decide_eq_true hw, Bool.true_and, r13_Last.j1]
      cases (readsL x).any (fun r => wOf (q24 l i) == r) with
      | false => rw [if_neg (by decide), if_neg (by decide)]; exact go n
      | true => rw [if_pos rfl, if_pos rfl]; exact go _
    · rw [if_neg hw, decide_eq_false hw, Bool.false_and, r13_Last.j1, if_neg (by decide), if_neg (by decide)]
      exact go n
theorem rlast_eq {k : Nat} (l : List S24) (hl : l.length ≤ 1000) (ho : okL l) (x : S24) (hx : 0 ≤ x.f0 ∧ x.f0 ≤ 33) (at_ : List Int) (ha : at_.length = l.length) (hk : 6000 ≤ k) : r13_Last.f k l x.f0 x.f1 x.f2 x.f3 x.f4 x.f5 at_ = some (lastOf l x at_) := by
  unfold r13_Last.f lastOf
  by_cases h : x.f0 = 0
  · rw [if_pos h, if_pos h]
  · rw [if_neg h, if_neg h]
    exact ref_last l hl ho x hx at_ ha l.length k 0 0 (by omega) (by omega)
end Go.Proofs.Ytibfkkjkahpobaa.PDag
end
section
namespace Go.Proofs.Ytibfkkjkahpobaa.PDag
attribute [local go_sem] Oper.semAt_some
def takenUp (at_ sl : List Int) (c s : Int) : Nat → Bool
  | 0 => false
  | j + 1 => takenUp at_ sl c s j || (rd at_ j == c && rd sl j == s)
theorem takenUp_at (at_ sl : List Int) (c s : Int) (j : Nat) (h : (rd at_ j == c && rd sl j == s) = true) : ∀ n, j < n → takenUp at_ sl c s n = true
  | n + 1, hn => by
    rw [takenUp]
    by_cases e : j = n
    · subst e; rw [h, Bool.or_true]
    · rw [takenUp_at at_ sl c s j h n (by omega), Bool.true_or]
set_option maxRecDepth 100000 in
set_option maxHeartbeats 4000000 in
theorem taken_calls (g : Nat) (cs : Array Value) (Aat Asl : Option Addr) (n cat csl : Nat) (at_ sl : List Int) (c s : Int) (w : World) (hg : w.heap[g]? = some (.cells cs 102 (0, 0))) (h4 : cs[4]? = some (.slice Aat n cat)) (h5 : cs[5]? = some (.slice Asl n csl))
    (hat : Kd.C (Kd.int .i64) w Aat n at_) (hsl : Kd.C (Kd.int .i64) w Asl n sl) (hmx : n ≤ 1000000) :
    Calls Try.prog 127 #[.pointer (some ⟨g, 0, none⟩), .int .i64 c, .int .i64 s] w fun x w' => x = .returned (.bool (takenUp at_ sl c s n)) ∧ Below w.heap.size w w' := by
  have x4 : w.cell? ⟨g, 4, none⟩ = some (.slice Aat n cat) := (bC_ hg 4).trans h4
  have HG := As_.mk hg
  have H5 := As_.mk h5
  have HA := As_.mk hat
  have HS := As_.mk hsl
  clear hg h4 h5 hat hsl
  go_enter Try.func127, Try.ntmps127
  go_wp2
  go_loopw [14] (fun i wr => ∃ j : Nat, j ≤ n ∧ i = .int .i64 j ∧ As_ (takenUp at_ sl c s j = false) ∧ As_ (Below w.heap.size w wr)) (fun i _ => n - (intOf i).toNat)
  case atStart => exact ⟨0, Nat.zero_le _, rfl, ⟨rfl⟩, ⟨Below.refl _ _⟩⟩
  case round =>
    obtain ⟨j, hj, rfl, HN, HB⟩ := hrel
    by_cases hlt : j < n
    · obtain ⟨ad, e1, hx⟩ := Kd.at_int HA.out (j : Int) (Int.natCast_nonneg _) (by omega)
      obtain ⟨ad2, e2, hy⟩ := Kd.at_int HS.out (j : Int) (Int.natCast_nonneg _) (by omega)
      subst e1
      subst e2
      rw [Int.toNat_natCast] at hx hy
      replace hx := hC_ HB hx
      replace hy := hC_ HB hy
      have x5 : wr.cell? ⟨g, 5, none⟩ = some (.slice (some ad2) n csl) := (bC_ ((HB.out.block g (blk_lt HG.out)).trans HG.out) 5).trans H5.out
      have p1 : ((0 : Int) ≤ (j : Int)) = True := eq_true (Int.natCast_nonneg _)
      have q1 : ((j : Int) < (n : Int)) = True := eq_true (by omega)
      have q2 : (j < n) = True := eq_true hlt
      have hw2 : wrap64 ((j : Int) + 1) = ((j + 1 : Nat) : Int) := by unfold wrap64; omega
      have hstep : takenUp at_ sl c s (j + 1) = (rd at_ j == c && rd sl j == s) := by rw [takenUp, HN.out, Bool.false_or]
      have HT := As_.mk hstep
      clear hstep
      by_cases h1 : rd at_ j = c
      · have c1 : (rd at_ j = c) = True := eq_true h1
        have c1b : (rd at_ j == c) = true := beq_iff_eq.mpr h1
        clear h1
        by_cases h2 : rd sl j = s
        · have c2 : (rd sl j = s) = True := eq_true h2
          have c2b : (rd sl j == s) = true := beq_iff_eq.mpr h2
          clear h2
          have hres := takenUp_at at_ sl c s j (by rw [c1b, c2b]; rfl) n hlt
          have HR := As_.mk hres
          clear hres
          go_wp2
          go_ret
          exact ⟨by rw [HR.out]; rfl, HB.out⟩
        · have c2 : (rd sl j = s) = False := eq_false h2
          have c2b : (rd sl j == s) = false := beq_eq_false_iff_ne.mpr h2
          clear h2
          go_wp2
          refine ⟨⟨j + 1, by omega, by congr 1, ⟨by rw [HT.out, c2b, Bool.and_false]⟩, ⟨HB.out⟩⟩, ?_⟩
          simp [intOf]
          omega
      · have c1 : (rd at_ j = c) = False := eq_false h1
        have c1b : (rd at_ j == c) = false := beq_eq_false_iff_ne.mpr h1
        clear h1
        go_wp2
        refine ⟨⟨j + 1, by omega, by congr 1, ⟨by rw [HT.out, c1b, Bool.false_and]⟩, ⟨HB.out⟩⟩, ?_⟩
        simp [intOf]
        omega
    · obtain rfl : j = n := by omega
      have q1 : ((j : Int) < (j : Int)) = False := eq_false (by omega)
      go_wp2
      go_ret
      exact ⟨by rw [HN.out]; rfl, HB.out⟩
end Go.Proofs.Ytibfkkjkahpobaa.PDag
end
section
namespace Go.Proofs.Ytibfkkjkahpobaa.PDag
attribute [local go_sem] Oper.semAt_some
def longUp (l : List S24) (at_ : List Int) : Nat → Int
  | 0 => 0
  | j + 1 => mx (longUp l at_ j) (wrap64 (rd at_ j + lateOp (q24 l j).f0))
def freeFrom (at_ sl : List Int) (n : Nat) : Nat → Int → Int
  | 0, c => c
  | f + 1, c => if takenUp at_ sl c 0 n = true then freeFrom at_ sl n f (c + 1) else c
set_option maxRecDepth 100000 in
set_option maxHeartbeats 8000000 in
theorem last_calls (g : Nat) (cs : Array Value) (Al Aat Asl : Option Addr) (cl cat csl : Nat) (l : List S24) (at_ sl : List Int) (x : S24) (t : Int) (F : Nat) (w : World) (hg : w.heap[g]? = some (.cells cs 102 (0, 0))) (h0 : cs[0]? = some (.slice Al l.length cl)) (h4 : cs[4]? = some (.slice Aat l.length cat)) (h5 : cs[5]? = some (.slice Asl l.length csl))
    (hl : Kd.C k24 w Al l.length l) (hat : Kd.C (Kd.int .i64) w Aat l.length at_) (hsl : Kd.C (Kd.int .i64) w Asl l.length sl) (hcl : l.length ≤ cl) (hcat : l.length ≤ cat) (hmx : l.length ≤ 200) (ho : okL l) (hal : at_.length = l.length)
    (hleast : ∀ k, 100000 ≤ k → dag_Least.f k l x.f0 x.f1 x.f2 x.f3 x.f4 x.f5 at_ = some t) (ht : 0 ≤ t ∧ t ≤ 100000) (hF : F ≤ 100000) (hfree : takenUp at_ sl (freeFrom at_ sl l.length F t) 0 l.length = false) :
    Calls Try.prog 113 #[.pointer (some ⟨g, 0, none⟩), .agg #[.int .i64 x.f0, .int .i64 x.f1, .int .i64 x.f2, .int .i64 x.f3, .int .i64 x.f4, .string x.f5]] w fun e w' =>
      e = .returned (if x.f0 = 0 then .tuple #[.int .i64 (-1), .int .i64 (longUp l at_ l.length)] else .tuple #[.int .i64 (freeFrom at_ sl l.length F t), .int .i64 (if x.f0 = 33 then freeFrom at_ sl l.length F t + 1 else freeFrom at_ sl l.length F t + 1 + 2)]) ∧ Below w.heap.size w w' := by
  have hu24 := Try.underlying24
  have HG := As_.mk hg
  have H0 := As_.mk h0
  have H4 := As_.mk h4
  have H5 := As_.mk h5
  have HL := As_.mk hl
  have HA := As_.mk hat
  have HS := As_.mk hsl
  have HO := As_.mk ho
  have HE := As_.mk hleast
  have HFR := As_.mk hfree
  clear hg h0 h4 h5 hl hat hsl ho hleast hfree
  go_enter Try.func113, Try.ntmps113
  by_cases hx : x.f0 = 0
  · have d1 : (x.f0 = 0) = True := eq_true hx
    have d2 : (x.f0 == 0) = true := beq_iff_eq.mpr hx
    go_wp2_with (first | ((with_reducible refine gate_dst (N := 3) rfl ?_); refine bX_ (N := 3) (cs := #[.int .i64 x.f0, .int .i64 x.f1, .int .i64 x.f2, .int .i64 x.f3, .int .i64 x.f4, .string x.f5]) (t := 24) ?_; intro g3 hg w3 hbox hb; have z0 : w3.cell? ⟨g3, 0, none⟩ = some (.int .i64 x.f0) := (bC_ hbox 0).trans rfl; have x4 : w3.cell? ⟨g, 4, none⟩ = some (.slice Aat l.length cat) := (bC_ (kB_ HG.out hb) 4).trans H4.out; have HB1 := As_.mk hb; clear hbox hg hb))
    go_loopw [5, 16] (fun v i wr => ∃ j : Nat, j ≤ l.length ∧ i = .int .i64 j ∧ v = .int .i64 (longUp l at_ j) ∧ As_ (Below w.heap.size w wr)) (fun _ i _ => l.length - (intOf i).toNat)
    case atStart => exact ⟨0, Nat.zero_le _, rfl, rfl, ⟨HB1.out⟩⟩
    case round =>
      clear z0 x4 HB1
      obtain ⟨j, hj, rfl, rfl, HB⟩ := hrel
      by_cases hlt : j < l.length
      · obtain ⟨ad, e1, hx⟩ := Kd.at_int HA.out (j : Int) (Int.natCast_nonneg _) (by omega)
        obtain ⟨ad2, e2, hx0, hx1, hx2, hx3, hx4, hx5⟩ := at_T24 HL.out (j : Int) (Int.natCast_nonneg _) (by omega)
        subst e1
        subst e2
        rw [Int.toNat_natCast] at hx hx0
        clear hx1 hx2 hx3 hx4 hx5
        replace hx := hC_ HB hx
        replace hx0 := hC_ HB hx0
        have x0 : wr.cell? ⟨g, 0, none⟩ = some (.slice (some ad2) l.length cl) := (bC_ ((HB.out.block g (blk_lt HG.out)).trans HG.out) 0).trans H0.out
        have p1 : ((0 : Int) ≤ (j : Int)) = True := eq_true (Int.natCast_nonneg _)
        have q1 : ((j : Int) < (l.length : Int)) = True := eq_true (by omega)
        have q2 : (j < l.length) = True := eq_true hlt
        have hw2 : wrap64 ((j : Int) + 1) = ((j + 1 : Nat) : Int) := by unfold wrap64; omega
        have hy := okI_op (HO.out j hlt)
        have HLA := As_.mk (late_eq (k := 10) (by omega) (q24 l (j : Int)).f0 hy.1 hy.2)
        clear hy
        go_wp2_with (go_at_call 92; (with_reducible refine (isa_Late.calls 10 (q24 l (j : Int)).f0 (lateOp (q24 l (j : Int)).f0) _ HLA.out).mono ?_); rintro e w' ⟨rfl, ⟨nd, rfl⟩⟩)
        refine ⟨⟨j + 1, by omega, by congr 1, by rfl, ⟨bN_ HB.out nd⟩⟩, ?_⟩
        simp [intOf]
        omega
      · obtain rfl : j = l.length := by omega
        have q1 : ((l.length : Int) < (l.length : Int)) = False := eq_false (by omega)
        go_wp2
        go_ret2
        exact ⟨by first | rfl | (rw [if_pos hx]; rfl), HB.out⟩
  · have d1 : (x.f0 = 0) = False := eq_false hx
    have d2 : (x.f0 == 0) = false := beq_eq_false_iff_ne.mpr hx
    go_wp2_with (first | ((with_reducible refine gate_dst (N := 3) rfl ?_); refine bX_ (N := 3) (cs := #[.int .i64 x.f0, .int .i64 x.f1, .int .i64 x.f2, .int .i64 x.f3, .int .i64 x.f4, .string x.f5]) (t := 24) ?_; intro g3 hg w3 hbox hb; have z0 : w3.cell? ⟨g3, 0, none⟩ = some (.int .i64 x.f0) := (bC_ hbox 0).trans rfl; have z1 : w3.cell? ⟨g3, 1, none⟩ = some (.int .i64 x.f1) := (bC_ hbox 1).trans rfl; have z2 : w3.cell? ⟨g3, 2, none⟩ = some (.int .i64 x.f2) := (bC_ hbox 2).trans rfl; have z3 : w3.cell? ⟨g3, 3, none⟩ = some (.int .i64 x.f3) := (bC_ hbox 3).trans rfl; have z4 : w3.cell? ⟨g3, 4, none⟩ = some (.int .i64 x.f4) := (bC_ hbox 4).trans rfl; have z5 : w3.cell? ⟨g3, 5, none⟩ = some (.string x.f5) := (bC_ hbox 5).trans rfl; have x0 : w3.cell? ⟨g, 0, none⟩ = some (.slice Al l.length cl) := (bC_ (kB_ HG.out hb) 0).trans H0.out; have x4 : w3.cell? ⟨g, 4, none⟩ = some (.slice Aat l.length cat) := (bC_ (kB_ HG.out hb) 4).trans H4.out; have BX := As_.mk hbox; have HB1 := As_.mk hb; clear hbox hg hb))
    refine wp_normal_only ?_
    unfold OnlyNormal
    have HLE := As_.mk (fun W hW => dag_Least.calls 100000 Al cl l x.f0 x.f1 x.f2 x.f3 x.f4 x.f5 Aat cat at_ t W (Kd.C_below HL.out hW) hcl (by rw [hal]; exact Kd.C_below HA.out hW) (by omega) (HE.out 100000 (Nat.le_refl _)))
    rw [hal] at HLE
    go_region_with (go_at_call 65; refine (HLE.out _ ?hW).mono ?_; (case hW => repeat (first | exact HB1.out | apply b1_)); rintro e w' ⟨rfl, hb⟩; have HB2 := As_.mk hb; clear hb)
    all_goals (try dsimp only)
    all_goals (try simp only [Act.put, List.setIfInBounds_toArray, List.set_cons_zero, List.set_cons_succ])
    all_goals go_wp2_with fail
    all_goals (try (rename_i hd_; injection hd_ with hd_; subst hd_))
    all_goals (try simp only [List.set_cons_zero, List.set_cons_succ])
    all_goals (
      go_loopw [4] (fun v wr => ∃ (c : Int) (f : Nat), v = .int .i64 c ∧ As_ (0 ≤ c ∧ c + f ≤ 200000) ∧ As_ (freeFrom at_ sl l.length f c = freeFrom at_ sl l.length F t) ∧ As_ (Below w.heap.size w wr) ∧ As_ (wr.cell? ⟨g3, 0, none⟩ = some (.int .i64 x.f0))) (fun v _ => (200001 - intOf v).toNat)
      case atStart => exact ⟨t, F, rfl, ⟨ht.1, by omega⟩, ⟨rfl⟩, ⟨(b1_ HB1.out).trans (HB2.out.mono HB1.out.size)⟩, ⟨pw_cell_below HB2.out z0⟩⟩
      case round =>
        clear HB1 HB2 BX z0 z1 z2 z3 z4 z5 x0 x4
        obtain ⟨c, f, rfl, HC, HF, HB, HZ⟩ := hrel
        have hT := taken_calls g cs Aat Asl l.length cat csl at_ sl c 0 wr ((HB.out.block g (blk_lt HG.out)).trans HG.out) H4.out H5.out (Kd.C_below HA.out HB.out) (Kd.C_below HS.out HB.out) (by omega)
        have hw : wrap64 (c + 1) = c + 1 := by have := HC.out; unfold wrap64; omega
        cases htk : takenUp at_ sl c 0 l.length with
        | true =>
          rw [htk] at hT
          have HT := As_.mk hT
          clear hT
          obtain ⟨f, rfl⟩ : ∃ f', f = f' + 1 := by
            cases f with
            | zero => exact absurd HFR.out (by rw [← HF.out]; show ¬ takenUp at_ sl c 0 l.length = false; rw [htk]; decide)
            | succ f => exact ⟨f, rfl⟩
          have hstep : freeFrom at_ sl l.length f (c + 1) = freeFrom at_ sl l.length F t := by rw [← HF.out, freeFrom, if_pos htk]
          have HP := As_.mk hstep
          clear hstep htk
          go_wp2_with (go_at_call 127; refine HT.out.mono ?_; rintro e w' ⟨rfl, hb⟩; have HB9 := As_.mk hb; clear hb)
          refine ⟨⟨c + 1, f, by congr 1, ⟨by have := HC.out; omega⟩, ⟨HP.out⟩, ⟨HB.out.trans (HB9.out.mono HB.out.size)⟩, ⟨pw_cell_below HB9.out HZ.out⟩⟩, ?_⟩
          have := HC.out
          (try rw [hw])
          show (200001 - (c + 1)).toNat < (200001 - c).toNat
          omega
        | false =>
          rw [htk] at hT
          have HT := As_.mk hT
          clear hT
          have hc : freeFrom at_ sl l.length F t = c := by
            rw [← HF.out]
            cases f with
            | zero => rfl
            | succ f => rw [freeFrom, if_neg (by rw [htk]; decide)]
          have HP := As_.mk hc
          have HC2 := As_.mk (show wrap64 (c + 1) = c + 1 ∧ wrap64 (c + 1 + 2) = c + 1 + 2 from by have := HC.out; unfold wrap64; omega)
          have hw3 := HC2.out.2
          clear hc htk
          by_cases h33 : x.f0 = 33
          · have H33 := As_.mk h33
            have d3 : (x.f0 == 33) = true := beq_iff_eq.mpr h33
            have d4 : (x.f0 = 33) = True := eq_true h33
            clear h33
            go_wp2_with (go_at_call 127; refine HT.out.mono ?_; rintro e w' ⟨rfl, hb⟩; have z9 := pw_cell_below hb HZ.out; have HB9 := As_.mk hb; clear hb)
            go_ret2
            exact ⟨by first | (rw [HP.out]; rfl) | (rw [HP.out, if_pos H33.out]; rfl) | (rw [if_neg hx, HP.out, if_pos H33.out]; rfl), HB.out.trans (HB9.out.mono HB.out.size)⟩
          · have H33 := As_.mk h33
            have d3 : (x.f0 == 33) = false := beq_eq_false_iff_ne.mpr h33
            have d4 : (x.f0 = 33) = False := eq_false h33
            clear h33
            go_wp2_with (go_at_call 127; refine HT.out.mono ?_; rintro e w' ⟨rfl, hb⟩; have z9 := pw_cell_below hb HZ.out; have HB9 := As_.mk hb; clear hb)
            go_ret2
            exact ⟨by first | (rw [HP.out]; rfl) | (rw [HP.out, if_neg H33.out]; rfl) | (rw [if_neg hx, HP.out, if_neg H33.out]; rfl), HB.out.trans (HB9.out.mono HB.out.size)⟩)
end Go.Proofs.Ytibfkkjkahpobaa.PDag
end
section
namespace Go.Proofs.Ytibfkkjkahpobaa.PDag
theorem cyc_in {l : List S24} (ho : okA l) (hn : l.length ≤ 200) (i : Nat) (hi : i < l.length) : (0 ≤ rd (cycF l).at_ i ∧ rd (cycF l).at_ i ≤ 799) ∧ 0 ≤ rd (cycF l).sl i ∧ rd (cycF l).sl i ≤ 3 := by
  obtain ⟨h0, hg⟩ := cycF_ends ho
  have h1 := hg.left
  have h2 := open_none (cycF l).at_ (by omega) i (by rw [hg.len]; exact hi)
  have h3 := (hg.up i hi).2
  exact ⟨⟨h2, by omega⟩, hg.slots i hi⟩
theorem cyc_len {l : List S24} (ho : okA l) : (cycF l).at_.length = l.length ∧ (cycF l).sl.length = l.length := ⟨(cycF_ends ho).2.len, (cycF_ends ho).2.len2⟩
theorem mx_ge (a b : Int) : a ≤ mx a b ∧ b ≤ mx a b ∧ (mx a b = a ∨ mx a b = b) := by unfold mx; split <;> omega
section
variable (x : S24) (l : List S24) (at_ : List Int)
theorem steps_bd (y : S24) (c n : Int) (h0 : 0 ≤ c) (h1 : c ≤ 799) (n0 : 0 ≤ n) (n1 : n ≤ 900) :
    (n ≤ step3 x y c (step2 x y c (step1 x y c n)) ∧ step3 x y c (step2 x y c (step1 x y c n)) ≤ 900) ∧ (x.f0 = 33 → c + 1 ≤ step3 x y c (step2 x y c (step1 x y c n))) ∧ (x.f0 ≠ 33 → c - 2 ≤ step3 x y c (step2 x y c (step1 x y c n))) := by
  have hl := late_range y.f0
  have a1 : n ≤ step1 x y c n ∧ step1 x y c n ≤ 900 := by
    unfold step1
    rw [wrapS _ (by omega) (by omega)]
    split
    · have := mx_ge n (c + lateOp y.f0); omega
    · omega
  generalize step1 x y c n = m1 at a1
  have a2 : m1 ≤ step2 x y c m1 ∧ step2 x y c m1 ≤ 900 ∧ (x.f0 = 33 → c + 1 ≤ step2 x y c m1) := by
    unfold step2
    rw [wrapS _ (by omega) (by omega)]
    split
    · have := mx_ge m1 (c + 1); omega
    · rename_i h
      exact ⟨by omega, by omega, fun e => absurd (by rw [e]; rfl) h⟩
  generalize step2 x y c m1 = m2 at a2
  unfold step3
  rw [wrapS (c - 2) (by omega) (by omega), wrapS (c + lateOp y.f0) (by omega) (by omega), wrapS (c + lateOp y.f0 - 2) (by omega) (by omega), wrapS (c + lateOp y.f0 - 2 - 1) (by omega) (by omega)]
  split
  · rename_i h
    have := a2.2.2 h
    exact ⟨⟨by omega, by omega⟩, fun _ => this, fun hn => absurd h hn⟩
  · have h1 := mx_ge m2 (c - 2)
    have h2 := mx_ge (mx m2 (c - 2)) (c + lateOp y.f0 - 2 - 1)
    exact ⟨⟨by omega, by omega⟩, fun h => by contradiction, fun _ => by omega⟩
theorem lastUp_bd (hat : ∀ i : Nat, i < l.length → 0 ≤ rd at_ i ∧ rd at_ i ≤ 799) : ∀ (d i : Nat) (n : Int), i + d = l.length → 0 ≤ n → n ≤ 900 → (n ≤ lastUp l at_ x d i n ∧ lastUp l at_ x d i n ≤ 900) ∧
    ∀ j : Nat, i ≤ j → j < l.length → (x.f0 = 33 → rd at_ j + 1 ≤ lastUp l at_ x d i n) ∧ (x.f0 ≠ 33 → rd at_ j - 2 ≤ lastUp l at_ x d i n)
  | 0, i, n, hi, n0, n1 => ⟨⟨Int.le_refl _, n1⟩, fun j h1 h2 => by omega⟩
  | d + 1, i, n, hi, n0, n1 => by
    have hc := hat i (by omega)
    have hs := steps_bd x (q24 l i) (rd at_ i) n hc.1 hc.2 n0 n1
    have ih := lastUp_bd hat d (i + 1) _ (by omega) (by omega) hs.1.2
    rw [lastUp]
    refine ⟨⟨by omega, ih.1.2⟩, fun j h1 h2 => ?_⟩
    by_cases e : j = i
    · subst e
      exact ⟨fun h => by have := hs.2.1 h; omega, fun h => by have := hs.2.2 h; omega⟩
    · exact ih.2 j (by omega) h2
theorem lastOf_bd (hat : ∀ i : Nat, i < l.length → 0 ≤ rd at_ i ∧ rd at_ i ≤ 799) : 0 ≤ lastOf l x at_ ∧ lastOf l x at_ ≤ 900 := by
  unfold lastOf
  split
  · omega
  · have := (lastUp_bd x l at_ hat l.length 0 0 (by omega) (by omega) (by omega)).1; omega
theorem lastOf_ge (hx : x.f0 ≠ 0) (hat : ∀ i : Nat, i < l.length → 0 ≤ rd at_ i ∧ rd at_ i ≤ 799) (j : Nat) (hj : j < l.length) : (x.f0 = 33 → rd at_ j + 1 ≤ lastOf l x at_) ∧ (x.f0 ≠ 33 → rd at_ j - 2 ≤ lastOf l x at_) := by
  unfold lastOf
  rw [if_neg hx]
  exact (lastUp_bd x l at_ hat l.length 0 0 (by omega) (by omega) (by omega)).2 j (by omega) hj
theorem longUp_bd (hat : ∀ i : Nat, i < l.length → 0 ≤ rd at_ i ∧ rd at_ i ≤ 799) : ∀ n, n ≤ l.length → 0 ≤ longUp l at_ n ∧ longUp l at_ n ≤ 900 ∧ ∀ j : Nat, j < n → rd at_ j + lateOp (q24 l j).f0 ≤ longUp l at_ n
  | 0, _ => ⟨Int.le_refl _, by simp [longUp], fun j h => absurd h (Nat.not_lt_zero _)⟩
  | n + 1, hn => by
    have ih := longUp_bd hat n (by omega)
    have hc := hat n (by omega)
    have hl := late_range (q24 l n).f0
    rw [longUp, wrapS _ (by omega) (by omega)]
    have hm := mx_ge (longUp l at_ n) (rd at_ n + lateOp (q24 l n).f0)
    refine ⟨by omega, by omega, fun j hj => ?_⟩
    by_cases e : j = n
    · subst e; omega
    · have := ih.2.2 j (by omega); omega
end
theorem takenUp_mem (at_ sl : List Int) (c s : Int) : ∀ n, takenUp at_ sl c s n = true → ∃ j : Nat, j < n ∧ rd at_ j = c ∧ rd sl j = s
  | 0, h => by simp [takenUp] at h
  | n + 1, h => by
    rw [takenUp, Bool.or_eq_true] at h
    rcases h with h | h
    · obtain ⟨j, h1, h2⟩ := takenUp_mem at_ sl c s n h
      exact ⟨j, by omega, h2⟩
    · simp only [Bool.and_eq_true, beq_iff_eq] at h
      exact ⟨n, by omega, h⟩
theorem freeFrom_ge (at_ sl : List Int) (n : Nat) : ∀ (f : Nat) (c : Int), c ≤ freeFrom at_ sl n f c ∧ freeFrom at_ sl n f c ≤ c + f
  | 0, c => by rw [freeFrom]; omega
  | f + 1, c => by
    rw [freeFrom]
    split
    · have := freeFrom_ge at_ sl n f (c + 1); omega
    · omega
theorem freeFrom_free (at_ sl : List Int) (n : Nat) (M : Int) (hM : ∀ i : Nat, i < n → rd at_ i ≤ M) : ∀ (f : Nat) (c : Int), M < c + f → takenUp at_ sl (freeFrom at_ sl n f c) 0 n = false
  | 0, c, h => by
    rw [freeFrom]
    cases ht : takenUp at_ sl c 0 n with
    | false => rfl
    | true =>
      obtain ⟨j, h1, h2, _⟩ := takenUp_mem _ _ _ _ _ ht
      have := hM j h1
      omega
  | f + 1, c, h => by
    rw [freeFrom]
    split
    · exact freeFrom_free at_ sl n M hM f (c + 1) (by omega)
    · rename_i ht
      simpa using ht
def endC (l : List S24) (x : S24) : Int × Int :=
  if x.f0 = 0 then (-1, longUp l (cycF l).at_ l.length) else (freeFrom (cycF l).at_ (cycF l).sl l.length 1000 (lastOf l x (cycF l).at_),
    if x.f0 = 33 then freeFrom (cycF l).at_ (cycF l).sl l.length 1000 (lastOf l x (cycF l).at_) + 1 else freeFrom (cycF l).at_ (cycF l).sl l.length 1000 (lastOf l x (cycF l).at_) + 1 + 2)
theorem endC_bd {l : List S24} (ho : okA l) (hn : l.length ≤ 200) (x : S24) : 0 ≤ (endC l x).2 ∧ (endC l x).2 ≤ 2000 ∧ (endC l x).1 < (endC l x).2 ∧ (x.f0 ≠ 0 → 0 ≤ (endC l x).1) ∧ ∀ j : Nat, j < l.length → rd (cycF l).at_ j < (endC l x).2 := by
  have hat : ∀ i : Nat, i < l.length → 0 ≤ rd (cycF l).at_ i ∧ rd (cycF l).at_ i ≤ 799 := fun i hi => (cyc_in ho hn i hi).1
  unfold endC
  by_cases h : x.f0 = 0
  · rw [if_pos h]
    have h1 := longUp_bd l (cycF l).at_ hat l.length (Nat.le_refl _)
    refine ⟨h1.1, by show longUp _ _ _ ≤ 2000; omega, by show (-1 : Int) < longUp _ _ _; omega, fun hx => absurd h hx, fun j hj => ?_⟩
    have h2 := h1.2.2 j hj
    have h3 := late_range (q24 l j).f0
    show _ < longUp _ _ _
    omega
  · rw [if_neg h]
    have h1 := lastOf_bd x l (cycF l).at_ hat
    have h2 := freeFrom_ge (cycF l).at_ (cycF l).sl l.length 1000 (lastOf l x (cycF l).at_)
    have h3 := lastOf_ge x l (cycF l).at_ h hat
    generalize freeFrom (cycF l).at_ (cycF l).sl l.length 1000 (lastOf l x (cycF l).at_) = t at h2
    by_cases h33 : x.f0 = 33
    · simp only [if_pos h33]
      exact ⟨by omega, by omega, by omega, fun _ => by omega, fun j hj => by have := (h3 j hj).1 h33; omega⟩
    · simp only [if_neg h33]
      exact ⟨by omega, by omega, by omega, fun _ => by omega, fun j hj => by have := (h3 j hj).2 h33; omega⟩
def put81 (b : S81) (s : Int) (x : S24) : S81 := if s = 0 then ⟨x, b.f1, b.f2, b.f3⟩ else if s = 1 then ⟨b.f0, x, b.f2, b.f3⟩ else if s = 2 then ⟨b.f0, b.f1, x, b.f3⟩ else ⟨b.f0, b.f1, b.f2, x⟩
def bunUp (l : List S24) (at_ sl : List Int) (c : List S81) : Nat → List S81
  | 0 => c
  | i + 1 => (bunUp l at_ sl c i).set (rd at_ i).toNat (put81 (q81 (bunUp l at_ sl c i) (rd at_ i)) (rd sl i) (q24 l i))
theorem bunUp_len (l : List S24) (at_ sl : List Int) (c : List S81) : ∀ i, (bunUp l at_ sl c i).length = c.length
  | 0 => rfl
  | i + 1 => by rw [bunUp, List.length_set, bunUp_len l at_ sl c i]
def bunAll (l : List S24) (x : S24) : List S81 := bunUp l (cycF l).at_ (cycF l).sl (List.replicate (endC l x).2.toNat z81) l.length
def bunF (l : List S24) (x : S24) : List S81 := if 0 ≤ (endC l x).1 then (bunAll l x).set (endC l x).1.toNat (put81 (q81 (bunAll l x) (endC l x).1) 0 x) else bunAll l x
theorem bunAll_len (l : List S24) (x : S24) : (bunAll l x).length = (endC l x).2.toNat := by unfold bunAll; rw [bunUp_len]; simp
end Go.Proofs.Ytibfkkjkahpobaa.PDag
end
section
namespace Go.Proofs.Ytibfkkjkahpobaa.PDag
attribute [local go_sem] Oper.semAt_some
def bundles84.T8 : Bool × List (List Nat × List Nat) := (true, [([], []), ([], []), ([1], [1]), ([2], [2]), ([3], [3]), ([], []), ([4, 5], [4, 5]), ([6], [6]), ([], []), ([8], [8]), ([9], [9]), ([10], [10]), ([], []), ([11, 12], [11, 12]), ([13], [13]), ([], []), ([0, 7], [0, 7]), ([16, 14, 0, 1, 2, 3, 4, 5, 6, 7, 8, 9, 10, 11, 12, 13, 14, 15], [14, 16]), ([17, 15, 0, 1, 2, 3, 4, 5, 6, 7, 8, 9, 10, 11, 12, 13, 14, 15], [15, 17])])
def bundles84.B8 : List Nat := [0, 0, 2, 6, 14, 0, 62, 126, 0, 256, 768, 1792, 0, 7936, 16128, 0, 255, 131071, 262143]
theorem bundles84.tab8 : rtab .any (opsOf Try.f84 8) = bundles84.T8 := by kernel_rfl
theorem bundles84.bits8 : waitsOk bundles84.T8.2 bundles84.B8 = true := by kernel_rfl
def bundles84.T11 : Bool × List (List Nat × List Nat) := (true, [([], []), ([], []), ([], []), ([2], [2]), ([0, 1], [0, 1]), ([4, 0, 1, 2, 3], [4]), ([5, 3, 0, 1, 2, 3], [3, 5])])
def bundles84.B11 : List Nat := [0, 0, 0, 4, 3, 31, 63]
theorem bundles84.tab11 : rtab .any (opsOf Try.f84 11) = bundles84.T11 := by kernel_rfl
theorem bundles84.bits11 : waitsOk bundles84.T11.2 bundles84.B11 = true := by kernel_rfl
theorem slot_store {B g n cap : Nat} {W : World} {xs : List S81} (h : k81.R 81 W B (fun _ => True) (.slice (some ⟨g, 0, none⟩) n cap) xs) (i : Nat) (hi : i < n) (s : Nat) (hs : s < 4) (x : S24) :
    k81.R 81 (W.setCells g (i * 24 + s * 6) (insC x)) B (fun _ => True) (.slice (some ⟨g, 0, none⟩) n cap) (xs.set i (put81 (q81 xs i) s x)) ∧ W.grownBy (W.setCells g (i * 24 + s * 6) (insC x)) (some g) ∧
    (Instr.storeAt 24 (.pointer (some ⟨g, i * 24 + s * 6, none⟩)) (.agg (insC x).toArray)).run Try.prog W = .ok () (W.setCells g (i * 24 + s * 6) (insC x)) := by
  obtain ⟨c, hcl, hM, hcc, hfr⟩ := Kd.R_elem h z81 (i : Int) (by omega) (by omega)
  have hb : q81 xs (i : Int) = xs.getD (i : Int).toNat z81 := rfl
  rw [Int.toNat_natCast] at hcc hfr hM
  rw [Int.toNat_natCast] at hb
  rw [← hb] at hM
  generalize q81 xs (i : Int) = b at hM hb
  obtain rfl := k81_openM hM
  rw [show k81.sz = 24 from rfl] at hcc hfr hcl
  have hcell : ∀ j, j < 24 → ∃ u, W.cell? ⟨g, i * 24 + j, none⟩ = some u := fun j hj => by
    have h2 := List.getElem?_eq_getElem (l := bunC b) (i := j) (by exact hj)
    exact ⟨_, hcc j _ h2⟩
  have hone : ∀ q ∈ insC x, q.oneCell' = true := by
    intro q hq
    simp only [insC, List.mem_cons, List.not_mem_nil, or_false] at hq
    rcases hq with rfl | rfl | rfl | rfl | rfl | rfl <;> rfl
  have hseg : ∀ (s : Nat) (x' : S81), s < 4 → k81.M W B (fun _ => False) x' ((bunC b).take (s * 6) ++ insC x ++ (bunC b).drop (s * 6 + 6)) → k81.R 81 (W.setCells g (i * 24 + s * 6) (insC x)) B (fun _ => True) (.slice (some ⟨g, 0, none⟩) n cap) (xs.set i x') ∧ W.grownBy (W.setCells g (i * 24 + s * 6) (insC x)) (some g) := by
    intro s x' hs hM'
    have h2 := Kd.R_seg h (i : Int) (by omega) (by omega) (c := bunC b) (seg := insC x) (j := s * 6) (okp := fun _ => False) (x' := x') rfl (by rw [Int.toNat_natCast]; exact hcc) (by show s * 6 + 6 ≤ 24; omega) hM' (fun _ hk => hk.elim)
    rw [Int.toNat_natCast] at h2; exact h2
  have hrun : (Instr.storeAt 24 (.pointer (some ⟨g, i * 24 + s * 6, none⟩)) (.agg (insC x).toArray)).run Try.prog W = .ok () (W.setCells g (i * 24 + s * 6) (insC x)) := by
    obtain ⟨i0, hi0, hz⟩ := Option.map_eq_some_iff.1 info24
    simp only [Prod.mk.injEq] at hz
    have hst := run_storeCells_cells (P := Try.prog) g (i * 24 + s * 6) (insC x) 0 W (fun j hj => by
      obtain ⟨u, hu⟩ := hcell (s * 6 + j) (by have h6 : j < 6 := hj; omega)
      rw [show i * 24 + s * 6 + 0 + j = i * 24 + (s * 6 + j) by omega, hu]; simp) (fun j _ => by
      have h2 := hfr (s * 6 + j)
      rw [show i * 24 + s * 6 + 0 + j = i * 24 + (s * 6 + j) by omega]; exact h2) hone
    simp only [Nat.add_zero] at hst
    simp [Instr.storeAt, Instr.sureAddr, storeVar, sizeOf, typeInfo, hi0, hz.2.1, hst, Value.cells, insC]
    exact hst
  have : s = 0 ∨ s = 1 ∨ s = 2 ∨ s = 3 := by omega
  rcases this with rfl | rfl | rfl | rfl
  · have h2 := hseg 0 (put81 b ((0 : Nat) : Int) x) (by omega) (k81_mkM W B _ (put81 b ((0 : Nat) : Int) x))
    exact ⟨h2.1, h2.2, hrun⟩
  · have h2 := hseg 1 (put81 b ((1 : Nat) : Int) x) (by omega) (k81_mkM W B _ (put81 b ((1 : Nat) : Int) x))
    exact ⟨h2.1, h2.2, hrun⟩
  · have h2 := hseg 2 (put81 b ((2 : Nat) : Int) x) (by omega) (k81_mkM W B _ (put81 b ((2 : Nat) : Int) x))
    exact ⟨h2.1, h2.2, hrun⟩
  · have h2 := hseg 3 (put81 b ((3 : Nat) : Int) x) (by omega) (k81_mkM W B _ (put81 b ((3 : Nat) : Int) x))
    exact ⟨h2.1, h2.2, hrun⟩
theorem last_end (l : List S24) (x : S24) (ho : okA l) (hn : l.length ≤ 200) (hx : 0 ≤ x.f0 ∧ x.f0 ≤ 33) {B g : Nat} {Al : Option Addr} {cl : Nat} {va vs : Value} {W : World} {ok : Nat → Prop} (hE : PEnd B g Al cl l.length va vs (cycF l).at_ (cycF l).sl W) (hF : Kd.F k24 W ok Al l.length l) (hcl : l.length ≤ cl) (c : Int) (L : Nat) (hcL : endC l x = (c, (L : Int))) :
    Calls Try.prog 113 #[.pointer (some ⟨g, 0, none⟩), .agg #[.int .i64 x.f0, .int .i64 x.f1, .int .i64 x.f2, .int .i64 x.f3, .int .i64 x.f4, .string x.f5]] W fun e w' => e = .returned (.tuple #[.int .i64 c, .int .i64 L]) ∧ Below W.heap.size W w' := by
  obtain ⟨v1, v2, v3, v6, hbx⟩ := hE.box
  have hra := hE.ra
  have hrs := hE.rs
  obtain ⟨hla, hls⟩ := cyc_len ho
  obtain ⟨Aa, ca, rfl⟩ := Kd.R_slice hra
  obtain ⟨As, cs, rfl⟩ := Kd.R_slice hrs
  rw [hla] at hra hbx
  rw [hls] at hrs hbx
  obtain ⟨_, hca, hCa⟩ := Kd.R_reads' hra
  obtain ⟨_, hcs, hCs⟩ := Kd.R_reads' hrs
  rw [hla] at hCa
  rw [hls] at hCs
  have hat : ∀ i : Nat, i < l.length → 0 ≤ rd (cycF l).at_ i ∧ rd (cycF l).at_ i ≤ 799 := fun i hi => (cyc_in ho hn i hi).1
  have hlo := lastOf_bd x l (cycF l).at_ hat
  refine (last_calls g _ Al Aa As cl ca cs l (cycF l).at_ (cycF l).sl x (lastOf l x (cycF l).at_) 1000 W hbx rfl rfl rfl (Kd.F_now hF) hCa hCs hcl hca hn (okA_L ho) hla (fun k hk => least_eq l (by omega) (okA_L ho) x hx _ hla (by omega)) ⟨hlo.1, by omega⟩ (by omega) (freeFrom_free _ _ _ 799 (fun i hi => (hat i hi).2) 1000 _ (by omega))).mono ?_
  rintro e w' ⟨rfl, hb⟩
  refine ⟨?_, hb⟩
  unfold endC at hcL
  split at hcL
  · rename_i h
    injection hcL with h1 h2
    rw [if_pos h, ← h1, ← h2]
  · rename_i h
    injection hcL with h1 h2
    rw [if_neg h, ← h1, ← h2]
theorem R81_shape {n0 : Nat} {W : World} {base : Nat} {ok : Nat → Prop} {v : Value} {xs : List S81} (h : k81.R 81 W base ok v xs) (hn : ∃ b, v.ownBlock = some b ∧ n0 ≤ b) : ∃ g cap, v = .slice (some ⟨g, 0, none⟩) xs.length cap ∧ n0 ≤ g := by
  obtain ⟨b, hb, hle⟩ := hn
  obtain ⟨inner, ho⟩ := Kd.R_own h
  rcases ho.2 with ⟨rfl, _⟩ | ⟨g, cap, cur, rfl, _⟩
  · simp [Value.ownBlock] at hb
  · have hg : g = b := by simpa [Value.ownBlock] using hb
    subst hg
    exact ⟨g, cap, rfl, hle⟩
set_option maxRecDepth 100000 in
set_option maxHeartbeats 8000000 in
theorem sched_Bundles.calls (A0 : Option Addr) (nl c0 : Nat) (Al : Option Addr) (cl : Nat) (l : List S24) (x : S24) (w : World) (hl : Kd.C k24 w Al l.length l) (hcl : l.length ≤ cl) (ho : okA l) (hn : l.length ≤ 200) (hx : 0 ≤ x.f0 ∧ x.f0 ≤ 33) :
    Calls Try.prog 84 #[.agg #[.slice A0 nl c0, .slice Al l.length cl, .int .i64 x.f0, .int .i64 x.f1, .int .i64 x.f2, .int .i64 x.f3, .int .i64 x.f4, .string x.f5]] w fun e w' => ∃ v0_ : Value, e = .returned (v0_) ∧ Kd.R k81 81 w' w.heap.size (fun _ => True) v0_ (bunF l x) ∧ Below w.heap.size w w' := by
  have hu73 := Try.underlying73
  have hu24 := Try.underlying24
  have HL := As_.mk hl
  have HO := As_.mk ho
  have HP := As_.mk (fun W hW => planned_calls 50000 Al cl l (edges l) (urges l) (heights l) W (Kd.C_below hl hW) hcl hn (urges_len l) (heights_len l) (by have := edges_few l hn; omega) (fun j hj => by
    rw [rd51_at _ _ hj]
    obtain ⟨a, t, e0, e1, hat, htn⟩ := edges_range l _ _ _ (List.getElem_mem hj)
    rw [e1]; omega) (own_edges l hn (okA_L ho) (Nat.le_refl _)) (urge_eq (by omega) l hn ho) (high_eq (by omega) l hn ho))
  have hbd := endC_bd ho hn x
  obtain ⟨c, L0, hcL0⟩ : ∃ c L, endC l x = (c, L) := ⟨_, _, rfl⟩
  rw [hcL0] at hbd
  simp only at hbd
  obtain ⟨L, rfl⟩ := Int.eq_ofNat_of_zero_le hbd.1
  have hlong1 : L ≤ 2000 := by have := hbd.2.1; omega
  have HCL := As_.mk hcL0
  have HBD := As_.mk hbd
  clear hl ho hbd hcL0
  go_enter Try.func84, Try.ntmps84
  go_wp2_with (first | ((with_reducible refine gate_dst (N := 1) rfl ?_); refine bX_ (N := 1) (cs := #[.slice A0 nl c0, .slice Al l.length cl, .int .i64 x.f0, .int .i64 x.f1, .int .i64 x.f2, .int .i64 x.f3, .int .i64 x.f4, .string x.f5]) (t := 73) ?_; intro gb hgb w1 hbox hb; have x1 : w1.cell? ⟨gb, 1, none⟩ = some (.slice Al l.length cl) := (bC_ hbox 1).trans rfl; have BX := As_.mk hbox; have HB := As_.mk hb; have GB := As_.mk (show w.heap.size ≤ gb from by rw [hgb]; exact Nat.le_refl _); clear hbox hb hgb) | (go_at_call 78; refine (HP.out _ HB.out).mono ?_; rintro e w2 ⟨B, g, A12, A15, A18, A21, c12, c15, c18, c21, vA, rfl, hB1, hBg, hPLI, hF, hb⟩; have HB1 := As_.mk (Nat.le_trans HB.out.size hB1); have HB1' := As_.mk hB1; have HBG := As_.mk hBg; have HPL := As_.mk hPLI; have HF := As_.mk hF; have HB2 := As_.mk (HB.out.trans (hb.mono HB.out.size)); have BX2 := As_.mk (kB_ BX.out hb); clear hB1 hBg hPLI hF hb x1) | (go_at_call 79; refine (ran_calls l HO.out hn HPL.out HF.out HBG.out (Nat.le_of_lt (Nat.lt_of_le_of_lt HBG.out (blk_lt HPL.out.box)))).mono ?_; rintro e w3 ⟨⟨v9, rfl⟩, ⟨va, vs, hE⟩, hb⟩; have BX3 := As_.mk ((hb.block gb (Nat.lt_of_lt_of_le (blk_lt BX.out) HB1'.out)).trans BX2.out); have HB3 := As_.mk (HB2.out.trans (hb.mono HB1.out)); have HE := As_.mk hE; have HF3 := As_.mk (Kd.F_step HF.out (fun k_ hk _ => hb.block k_ hk)); clear hE hb; have y2 : w3.cell? ⟨gb, 2, none⟩ = some (.int .i64 x.f0) := (bC_ BX3.out 2).trans rfl; have y3 : w3.cell? ⟨gb, 3, none⟩ = some (.int .i64 x.f1) := (bC_ BX3.out 3).trans rfl; have y4 : w3.cell? ⟨gb, 4, none⟩ = some (.int .i64 x.f2) := (bC_ BX3.out 4).trans rfl; have y5 : w3.cell? ⟨gb, 5, none⟩ = some (.int .i64 x.f3) := (bC_ BX3.out 5).trans rfl; have y6 : w3.cell? ⟨gb, 6, none⟩ = some (.int .i64 x.f4) := (bC_ BX3.out 6).trans rfl; have y7 : w3.cell? ⟨gb, 7, none⟩ = some (.string x.f5) := (bC_ BX3.out 7).trans rfl) | (go_at_call 113; refine (last_end l x HO.out hn hx HE.out HF3.out hcl c L HCL.out).mono ?_; rintro e w4 ⟨rfl, hb⟩; have HB4 := As_.mk (HB3.out.trans (hb.mono HB3.out.size)); have HB45 := As_.mk hb; clear hb y2 y3 y4 y5 y6 y7) | ((with_reducible refine gate_dst (N := 22) rfl ?_); refine Kd.R_make k81 _ 81 rfl (N := 22) rfl 65 _ _ rfl (L : Int) rfl rfl Try.underlying65 (.agg #[(.int .i64 0), (.int .i64 0), (.int .i64 0), (.int .i64 0), (.int .i64 0), (.string ⟨#[]⟩), (.int .i64 0), (.int .i64 0), (.int .i64 0), (.int .i64 0), (.int .i64 0), (.string ⟨#[]⟩), (.int .i64 0), (.int .i64 0), (.int .i64 0), (.int .i64 0), (.int .i64 0), (.string ⟨#[]⟩), (.int .i64 0), (.int .i64 0), (.int .i64 0), (.int .i64 0), (.int .i64 0), (.string ⟨#[]⟩)]) 224 info81 rfl (by decide) (by omega) z81 (ok := fun _ => True) (okp := fun _ => True) (k81_mkM _ _ _ z81) (fun _ hk => hk) trivial (Int.natCast_nonneg _) (by omega) (Below.refl _ _) (Nat.le_refl _) ?_; intro vc w5 hR5 hb5 _ hn5; rw [Int.toNat_natCast] at hR5; obtain ⟨gc, cap, hvc, hgc⟩ := R81_shape hR5 hn5; subst hvc; rw [List.length_replicate] at hR5; have HR5 := As_.mk hR5; have HB5 := As_.mk hb5; have HGC := As_.mk hgc; have BX5 := As_.mk (kB_ (kB_ BX3.out HB45.out) hb5); have x15 : w5.cell? ⟨gb, 1, none⟩ = some (.slice Al l.length cl) := (bC_ BX5.out 1).trans rfl; clear hR5 hb5 hn5 hgc))
  obtain ⟨v1, v2, v3, v6, hbE⟩ := HE.out.box
  have hra := HE.out.ra
  have hrs := HE.out.rs
  obtain ⟨hla, hls⟩ := cyc_len HO.out
  obtain ⟨Aa, ca, hva⟩ := Kd.R_slice hra
  obtain ⟨As, cs, hvs⟩ := Kd.R_slice hrs
  subst hva
  subst hvs
  rw [hla] at hra hbE
  rw [hls] at hrs hbE
  have hCa := (Kd.R_reads' hra).2.2
  have hCs := (Kd.R_reads' hrs).2.2
  rw [hla] at hCa
  rw [hls] at hCs
  have BE := As_.mk (kB_ hbE HB45.out)
  have CA := As_.mk (Kd.C_below hCa HB45.out)
  have CS := As_.mk (Kd.C_below hCs HB45.out)
  have CL := As_.mk (Kd.C_below (Kd.F_now HF3.out) HB45.out)
  have BX4 := As_.mk (kB_ BX3.out HB45.out)
  have HIN := As_.mk (fun i hi => cyc_in HO.out hn i hi)
  clear hra hrs hbE hCa hCs hla hls HE HF3 HF HPL HP BX BX2 BX3 BX5 x15 HB1' HBG
  go_loopw [26] (fun i wr => ∃ j : Nat, j ≤ l.length ∧ i = .int .i64 j ∧ As_ (Kd.R k81 81 wr w4.heap.size (fun _ => True) (.slice (some ⟨gc, 0, none⟩) L cap) (bunUp l (cycF l).at_ (cycF l).sl (List.replicate L z81) j)) ∧ As_ (Below w4.heap.size w4 wr)) (fun i _ => l.length - (intOf i).toNat)
  case atStart => exact ⟨0, Nat.zero_le _, rfl, ⟨HR5.out⟩, ⟨HB5.out⟩⟩
  case round =>
    clear HR5 HB5
    obtain ⟨j, hj, rfl, HR, HB⟩ := hrel
    by_cases hlt : j < l.length
    · obtain ⟨ad, e1, hx0, hx1, hx2, hx3, hx4, hx5⟩ := at_T24 (Kd.C_below CL.out HB.out) (j : Int) (Int.natCast_nonneg _) (by omega)
      subst e1
      obtain ⟨ada, e2, ha⟩ := Kd.at_int (Kd.C_below CA.out HB.out) (j : Int) (Int.natCast_nonneg _) (by omega)
      subst e2
      obtain ⟨ads, e3, hs⟩ := Kd.at_int (Kd.C_below CS.out HB.out) (j : Int) (Int.natCast_nonneg _) (by omega)
      subst e3
      rw [Int.toNat_natCast] at hx0 hx1 hx2 hx3 hx4 hx5 ha hs
      have hin := HIN.out j hlt
      have hlt2 := HBD.out.2.2.2.2 j hlt
      have hbun : bunUp l (cycF l).at_ (cycF l).sl (List.replicate L z81) (j + 1) = (bunUp l (cycF l).at_ (cycF l).sl (List.replicate L z81) j).set (rd (cycF l).at_ j).toNat (put81 (q81 (bunUp l (cycF l).at_ (cycF l).sl (List.replicate L z81) j) (rd (cycF l).at_ j)) (rd (cycF l).sl j) (q24 l j)) := rfl
      have HBU := As_.mk hbun
      clear hbun
      generalize hai : rd (cycF l).at_ (j : Int) = va at ha hin hlt2 HBU
      generalize hsi : rd (cycF l).sl (j : Int) = vs at hs hin HBU
      obtain ⟨av, rfl⟩ := Int.eq_ofNat_of_zero_le hin.1.1
      obtain ⟨sv, rfl⟩ := Int.eq_ofNat_of_zero_le hin.2.1
      have hav : av < L := by omega
      have hsv : sv < 4 := by omega
      clear hin hlt2 hai hsi
      have HAV := As_.mk hav
      have HSV := As_.mk hsv
      have p1 : ((0 : Int) ≤ (j : Int)) = True := eq_true (Int.natCast_nonneg _)
      have q1 : ((j : Int) < (l.length : Int)) = True := eq_true (by omega)
      have q1n : (j < l.length) = True := eq_true hlt
      have p2 : ((0 : Int) ≤ (av : Int)) = True := eq_true (Int.natCast_nonneg _)
      have q2 : ((av : Int) < (L : Int)) = True := eq_true (by omega)
      have q2n : (av < L) = True := eq_true hav
      have p3 : ((0 : Int) ≤ (sv : Int)) = True := eq_true (Int.natCast_nonneg _)
      have q3 : ((sv : Int) < 4) = True := eq_true (by omega)
      have q3n : (sv < 4) = True := eq_true hsv
      clear hav hsv
      have hw2 : wrap64 ((j : Int) + 1) = ((j + 1 : Nat) : Int) := by unfold wrap64; omega
      go_wp2
      have hb1 := b1_ (bA_ (Below.refl wr.heap.size wr) (.cells #[.int .i64 (q24 l (j : Int)).f0, .int .i64 (q24 l (j : Int)).f1, .int .i64 (q24 l (j : Int)).f2, .int .i64 (q24 l (j : Int)).f3, .int .i64 (q24 l (j : Int)).f4, .string (q24 l (j : Int)).f5] 24))
      have hbx : (wr.alloc (.cells #[.int .i64 (q24 l (j : Int)).f0, .int .i64 (q24 l (j : Int)).f1, .int .i64 (q24 l (j : Int)).f2, .int .i64 (q24 l (j : Int)).f3, .int .i64 (q24 l (j : Int)).f4, .string (q24 l (j : Int)).f5] 24)).drew.heap[wr.heap.size]? = some (.cells #[.int .i64 (q24 l (j : Int)).f0, .int .i64 (q24 l (j : Int)).f1, .int .i64 (q24 l (j : Int)).f2, .int .i64 (q24 l (j : Int)).f3, .int .i64 (q24 l (j : Int)).f4, .string (q24 l (j : Int)).f5] 24 (0, 0)) := blk_new wr _
      have HBX := As_.mk hbx
      have HR1 := As_.mk (Kd.R_below HR.out hb1)
      have HB1 := As_.mk (HB.out.trans (hb1.mono HB.out.size))
      have m4 := As_.mk (bC_ ((HB1.out.block g (blk_lt BE.out)).trans BE.out) 4)
      have m5 := As_.mk (bC_ ((HB1.out.block g (blk_lt BE.out)).trans BE.out) 5)
      have ma := As_.mk (pw_cell_below hb1 ha)
      have ms := As_.mk (pw_cell_below hb1 hs)
      clear hb1 hbx HR HB ha hs hx0 hx1 hx2 hx3 hx4 hx5
      generalize hy : q24 l (j : Int) = y at HBX HR1 HB1 m4 m5 ma ms HBU ⊢
      refine start_ (n := 19) (S := fun w' => w'.cell? ⟨g, 4, none⟩ = some (.slice (some ada) l.length ca) ∧ w'.cell? ⟨g, 5, none⟩ = some (.slice (some ads) l.length cs) ∧ w'.cell? (ada.add j) = some (.int .i64 av) ∧ w'.cell? (ads.add j) = some (.int .i64 sv) ∧ w'.cell? ⟨wr.heap.size, 0, none⟩ = some (.int .i64 y.f0) ∧ w'.cell? ⟨wr.heap.size, 1, none⟩ = some (.int .i64 y.f1) ∧ w'.cell? ⟨wr.heap.size, 2, none⟩ = some (.int .i64 y.f2) ∧ w'.cell? ⟨wr.heap.size, 3, none⟩ = some (.int .i64 y.f3) ∧ w'.cell? ⟨wr.heap.size, 4, none⟩ = some (.int .i64 y.f4) ∧ w'.cell? ⟨wr.heap.size, 5, none⟩ = some (.string y.f5)) (ds := [18]) (bm 19 0) (by kernel_rfl) rfl (by kernel_rfl) ⟨m4.out.trans rfl, m5.out.trans rfl, ma.out, ms.out, (bC_ HBX.out 0).trans rfl, (bC_ HBX.out 1).trans rfl, (bC_ HBX.out 2).trans rfl, (bC_ HBX.out 3).trans rfl, (bC_ HBX.out 4).trans rfl, (bC_ HBX.out 5).trans rfl⟩ (fun hHeld => ?_); refine with_tabW bundles84.tab8 bundles84.bits8 (fun HT_ HW_ => ?_)
      clear HBX m4 m5 ma ms
      generalize wr.heap.size = gx at hHeld ⊢
      generalize (wr.alloc (.cells #[.int .i64 y.f0, .int .i64 y.f1, .int .i64 y.f2, .int .i64 y.f3, .int .i64 y.f4, .string y.f5] 24)).drew = W5 at HR1 HB1 hHeld ⊢
      refine sq_ (k := 1) [(0, some 31, false), (1, some 32, false), (2, some 33, false), (3, some 34, false), (4, some 35, true), (5, some 36, false), (6, some 37, false), (7, some 38, true), (8, some 39, false), (9, some 40, false), (10, some 41, false), (11, some 42, true), (12, some 43, false), (13, some 44, false), (14, some 45, true), (15, some 46, true), (16, some 47, false), (17, some 48, false)] #[true, true, true, true, true, true, true, true, true, true, true, true, true, true, true, true, true, true, false] rfl (sq_of HT_.out HW_.out (by kernel_rfl)) (fun _ _ _ _ _ h => h) hHeld ?_
      repeat (first | (refine SqOn.pure (v := ?_) (a' := ?_) rfl rfl (Or.inl ⟨by kernel_rfl, ?_⟩) ?_ ?_; rotate_left 2; (focus (intro w'; go_simp; with_reducible rfl)); (focus (first | (simp only [Act.put, List.setIfInBounds_toArray, List.set_cons_zero, List.set_cons_succ, i64_w, i32_w]; rfl) | rfl))) | (refine SqOn.take (v := ?_) (a' := ?_) rfl rfl (Or.inl ⟨by kernel_rfl, ?_⟩) ?_ ?_; rotate_left 2; (focus (rintro w' ⟨s0, s1, s2, s3, s4, s5, s6, s7, s8, s9⟩; go_simp; with_reducible rfl)); (focus (first | (simp only [Act.put, List.setIfInBounds_toArray, List.set_cons_zero, List.set_cons_succ, i64_w, i32_w]; rfl) | rfl))))
      refine SqOn.nil ?_
      obtain ⟨hR2, hg2, hrun⟩ := slot_store HR1.out av HAV.out sv HSV.out y
      have hR3 := As_.mk hR2
      have hB3 := As_.mk (pw_below_grown HB1.out (some gc) HB1.out.size hg2 (fun k_ e_ => by injection e_ with e_; subst e_; exact HGC.out))
      have hrun3 := As_.mk hrun
      clear hR2 hg2 hrun
      refine last_ (i := 18) (N := none) #[true, true, true, true, true, true, true, true, true, true, true, true, true, true, true, true, true, true, true] rfl rfl (one_of HT_.out (by kernel_rfl)) (by decide) (fun K hK => ?_)
      refine skip_ (w1 := W5.setCells gc (av * 24 + sv * 6) (insC y)) (by rfl) rfl ?_ ?_
      · have h_ := hrun3.out
        simp only [insC] at h_ ⊢
        simp [execOp, Act.eval, h_, Result.andThen]
      refine hK.out _ _ ?_
      clear hK K hrun3 HR1 HB1 hHeld
      refine done_ (done_of HT_.out (by kernel_rfl)) ?_
      clear HT_ HW_
      generalize W5.setCells gc (av * 24 + sv * 6) (insC y) = W6 at hR3 hB3 ⊢
      go_wp2
      refine ⟨⟨j + 1, by omega, by congr 1, ⟨by rw [HBU.out]; exact hR3.out⟩, ⟨hB3.out⟩⟩, ?_⟩
      simp [intOf]
      omega
    · obtain rfl : j = l.length := by omega
      have q1 : ((l.length : Int) < (l.length : Int)) = False := eq_false (by omega)
      have hcl2 := HBD.out
      by_cases h0 : 0 ≤ c
      · have c1 : ((0 : Int) ≤ c) = True := eq_true h0
        have c1b : decide ((0 : Int) ≤ c) = true := decide_eq_true h0
        have hcL : c < (L : Int) := hcl2.2.2.1
        clear hcl2
        obtain ⟨cv, rfl⟩ := Int.eq_ofNat_of_zero_le h0
        clear h0
        have p2 : ((0 : Int) ≤ (cv : Int)) = True := eq_true (Int.natCast_nonneg _)
        have q2 : ((cv : Int) < (L : Int)) = True := eq_true hcL
        have hcv : cv < L := by omega
        have q2n : (cv < L) = True := eq_true hcv
        have HCV := As_.mk hcv
        clear hcv hcL
        have BX6 := As_.mk ((HB.out.block gb (blk_lt BX4.out)).trans BX4.out)
        go_wp2
        refine start_ (n := 7) (S := fun w' => w'.cell? ⟨gb, 2, none⟩ = some (.int .i64 x.f0) ∧ w'.cell? ⟨gb, 3, none⟩ = some (.int .i64 x.f1) ∧ w'.cell? ⟨gb, 4, none⟩ = some (.int .i64 x.f2) ∧ w'.cell? ⟨gb, 5, none⟩ = some (.int .i64 x.f3) ∧ w'.cell? ⟨gb, 6, none⟩ = some (.int .i64 x.f4) ∧ w'.cell? ⟨gb, 7, none⟩ = some (.string x.f5)) (ds := [6]) (bm 7 0) (by kernel_rfl) rfl (by kernel_rfl) ⟨(bC_ (kD_ BX6.out) 2).trans rfl, (bC_ (kD_ BX6.out) 3).trans rfl, (bC_ (kD_ BX6.out) 4).trans rfl, (bC_ (kD_ BX6.out) 5).trans rfl, (bC_ (kD_ BX6.out) 6).trans rfl, (bC_ (kD_ BX6.out) 7).trans rfl⟩ (fun hHeld => ?_); refine with_tabW bundles84.tab11 bundles84.bits11 (fun HT_ HW_ => ?_)
        have HR1 := As_.mk (Kd.R_drew HR.out)
        have HB1 := As_.mk (b1_ HB.out |> fun h_ => (h_ : Below w4.heap.size w4 wr.drew))
        clear HR HB BX6
        generalize wr.drew = W5 at HR1 HB1 hHeld ⊢
        refine sq_ (k := 1) [(0, some 52, false), (1, some 53, false), (2, some 54, false), (3, some 55, true), (4, some 56, false), (5, some 57, false)] #[true, true, true, true, true, true, false] rfl (sq_of HT_.out HW_.out (by kernel_rfl)) (fun _ _ _ _ _ h => h) hHeld ?_
        repeat (first | (refine SqOn.pure (v := ?_) (a' := ?_) rfl rfl (Or.inl ⟨by kernel_rfl, ?_⟩) ?_ ?_; rotate_left 2; (focus (intro w'; go_simp; with_reducible rfl)); (focus (first | (simp only [Act.put, List.setIfInBounds_toArray, List.set_cons_zero, List.set_cons_succ, i64_w, i32_w]; rfl) | rfl))) | (refine SqOn.take (v := ?_) (a' := ?_) rfl rfl (Or.inl ⟨by kernel_rfl, ?_⟩) ?_ ?_; rotate_left 2; (focus (rintro w' ⟨s0, s1, s2, s3, s4, s5⟩; go_simp; with_reducible rfl)); (focus (first | (simp only [Act.put, List.setIfInBounds_toArray, List.set_cons_zero, List.set_cons_succ, i64_w, i32_w]; rfl) | rfl))))
        refine SqOn.nil ?_
        obtain ⟨hR2, hg2, hrun⟩ := slot_store HR1.out cv HCV.out 0 (by omega) x
        have hR3 := As_.mk hR2
        have hB3 := As_.mk (pw_below_grown HB1.out (some gc) HB1.out.size hg2 (fun k_ e_ => by injection e_ with e_; subst e_; exact HGC.out))
        have hrun3 := As_.mk hrun
        clear hR2 hg2 hrun
        refine last_ (i := 6) (N := none) #[true, true, true, true, true, true, true] rfl rfl (one_of HT_.out (by kernel_rfl)) (by decide) (fun K hK => ?_)
        refine skip_ (w1 := W5.setCells gc (cv * 24 + 0 * 6) (insC x)) (by rfl) rfl ?_ ?_
        · have h_ := hrun3.out
          simp only [insC, Nat.zero_mul, Nat.add_zero] at h_ ⊢
          simp [execOp, Act.eval, h_, Result.andThen]
        refine hK.out _ _ ?_
        clear hK K hrun3 HR1 HB1 hHeld
        refine done_ (done_of HT_.out (by kernel_rfl)) ?_
        clear HT_ HW_
        generalize W5.setCells gc (cv * 24 + 0 * 6) (insC x) = W6 at hR3 hB3 ⊢
        go_wp2
        go_ret
        refine ⟨_, rfl, Kd.R_lower ?_ HB4.out.size, HB4.out.trans (hB3.out.mono HB4.out.size)⟩
        have hc : (endC l x).1 = cv := by rw [HCL.out]
        have hL2 : (endC l x).2.toNat = L := by rw [HCL.out]; simp
        unfold bunF bunAll
        rw [hc, if_pos (Int.natCast_nonneg _), hL2, Int.toNat_natCast]
        exact hR3.out
      · have c1 : ((0 : Int) ≤ c) = False := eq_false h0
        have c1b : decide ((0 : Int) ≤ c) = false := decide_eq_false h0
        clear hcl2
        have H0 := As_.mk h0
        clear h0
        go_wp2
        go_ret
        refine ⟨_, rfl, Kd.R_lower ?_ HB4.out.size, HB4.out.trans (HB.out.mono HB4.out.size)⟩
        have hc : (endC l x).1 = c := by rw [HCL.out]
        have hL2 : (endC l x).2.toNat = L := by rw [HCL.out]; simp
        unfold bunF bunAll
        rw [hc, if_neg (by have := H0.out; omega), hL2]
        exact HR.out
end Go.Proofs.Ytibfkkjkahpobaa.PDag
end
