import Derived.Test.YtibfkkjkahpobaaHx15
import Derived.Test.YtibfkkjkahpobaaHx25
import Derived.Test.YtibfkkjkahpobaaHx26
set_option linter.unusedVariables false
set_option linter.unusedSimpArgs false
set_option maxHeartbeats 8000000
set_option maxRecDepth 100000
namespace Go.Proofs.Ytibfkkjkahpobaa.PDag
open Go.RowKit Go.Proofs.YtibfkkjkahpobaaW.PrintWords Go.Proofs.YtibfkkjkahpobaaW.PrintLast Go.Proofs.YtibfkkjkahpobaaW.PrintMore
theorem tight_same (T : List Bool) (a : Nat) (v : Bool) (ha : a < T.length) : rdOf false (T.set a v) (a : Int) = v := by
  unfold rdOf
  rw [Int.toNat_natCast, List.getD_eq_getElem?_getD, List.getElem?_set_self ha]; rfl
theorem tight_other (T : List Bool) (a t : Nat) (v : Bool) (h : t ≠ a) : rdOf false (T.set a v) (t : Int) = rdOf false T (t : Int) := by
  unfold rdOf
  rw [Int.toNat_natCast, List.getD_eq_getElem?_getD, List.getD_eq_getElem?_getD, List.getElem?_set_ne (fun e => h e.symm)]
def tightE (l : List S24) (e : S51) : Prop := rd (heights l) e.f0 = wrap64 (rd (heights l) e.f1 + e.f2)
theorem high_l1 (l : List S24) (hl : l.length ≤ 200) (ho : okL l) (T : List Bool) (hT : T.length = l.length) (hn : ∀ i : Nat, i < l.length → rdOf false T (i : Int) = false → rd (heights l) (i : Int) = lateOp (J24 l i).f0) :
    ∀ (d i k : Nat), i + d = l.length → 2000 + 2 * d ≤ k → w14_DagHigh.l1 k l (heights l) (urges l) T (i : Int) = some true
  | 0, i, k, hi, hk => by
    obtain ⟨k, rfl⟩ : ∃ k', k = k' + 1 := ⟨k - 1, by omega⟩
    rw [w14_DagHigh.l1, if_neg (by omega), wakes_eq (by omega)]; rfl
  | d + 1, i, k, hi, hk => by
    obtain ⟨k, rfl⟩ : ∃ k', k = k' + 1 + 1 := ⟨k - 2, by omega⟩
    have hy := okI_op (ho i (by omega))
    have hH := heights_len l
    have hU := urges_len l
    have hlo := (height_at l i (by omega)).1
    have hu1 := (urge_at l i (by omega)).1
    have ur := urge_range l (l.length - 1 - i) i (by omega)
    have fin : w14_DagHigh.j4 (k + 1) l (heights l) (urges l) T (i : Int) false = some true := by
      rw [w14_DagHigh.j4, if_neg (by decide), wrap_at (by omega)]
      exact high_l1 l hl ho T hT hn d (i + 1) k (by omega) (by omega)
    rw [w14_DagHigh.l1, if_pos (by omega), if_pos (by omega), if_pos (by omega)]
    cases ht : rdOf false T (i : Int) with
    | true =>
      rw [if_pos rfl, if_pos (by omega), rlate_eq (by omega) _ hy.1 hy.2, Option.bind_some, if_neg (by omega)]
      rw [reff_eq _ hy.1 hy.2, Option.bind_some]
      cases he : effOp (J24 l i).f0 with
      | true =>
        have hle := hu1 he
        rw [if_pos rfl, if_pos (by omega), if_neg (by omega), if_neg (by omega), if_neg (by omega)]
        by_cases hu : rd (urges l) i < (l.length : Int)
        · have hz := okI_op (ho (rd (urges l) i).toNat (by omega))
          rw [Int.toNat_of_nonneg (by omega)] at hz
          rw [if_pos hu, if_pos (by omega), reff_eq _ hz.1 hz.2, Option.bind_some, ur.2.2 hu]
          exact fin
        · rw [if_neg hu]
          exact fin
      | false =>
        rw [if_neg (by decide), if_pos (by omega), if_neg (by omega), if_neg (by omega)]
        by_cases hu : rd (urges l) i < (l.length : Int)
        · have hz := okI_op (ho (rd (urges l) i).toNat (by omega))
          rw [Int.toNat_of_nonneg (by omega)] at hz
          rw [if_pos hu, if_pos (by omega), reff_eq _ hz.1 hz.2, Option.bind_some, ur.2.2 hu]
          exact fin
        · rw [if_neg hu]
          exact fin
    | false =>
      have he2 := hn i (by omega) ht
      rw [if_neg (by decide), if_pos (by omega), rlate_eq (by omega) _ hy.1 hy.2, Option.bind_some, if_pos he2, Option.bind_some, if_neg (by omega)]
      rw [reff_eq _ hy.1 hy.2, Option.bind_some]
      cases he : effOp (J24 l i).f0 with
      | true =>
        have hle := hu1 he
        rw [if_pos rfl, if_pos (by omega), if_neg (by omega), if_neg (by omega), if_neg (by omega)]
        by_cases hu : rd (urges l) i < (l.length : Int)
        · have hz := okI_op (ho (rd (urges l) i).toNat (by omega))
          rw [Int.toNat_of_nonneg (by omega)] at hz
          rw [if_pos hu, if_pos (by omega), reff_eq _ hz.1 hz.2, Option.bind_some, ur.2.2 hu]
          exact fin
        · rw [if_neg hu]
          exact fin
      | false =>
        rw [if_neg (by decide), if_pos (by omega), if_neg (by omega), if_neg (by omega)]
        by_cases hu : rd (urges l) i < (l.length : Int)
        · have hz := okI_op (ho (rd (urges l) i).toNat (by omega))
          rw [Int.toNat_of_nonneg (by omega)] at hz
          rw [if_pos hu, if_pos (by omega), reff_eq _ hz.1 hz.2, Option.bind_some, ur.2.2 hu]
          exact fin
        · rw [if_neg hu]
          exact fin
theorem high_l0 (l : List S24) (hl : l.length ≤ 200) (ho : okL l) (hE : (edges l).length ≤ 1000000) : ∀ (d q k : Nat) (T : List Bool), q + d = (edges l).length → T.length = l.length → (∀ j : Nat, j < q → tightE l (J51 (edges l) j) → rdOf false T (J51 (edges l) j).f0 = true) → 5000 + 2 * d ≤ k →
    w14_DagHigh.l0 k l (edges l) (heights l) (urges l) T (q : Int) = some true
  | 0, q, k, T, hq, hT, hI, hk => by
    obtain ⟨k, rfl⟩ : ∃ k', k = k' + 1 := ⟨k - 1, by omega⟩
    rw [w14_DagHigh.l0, if_neg (by omega)]
    refine high_l1 l hl ho T hT (fun i hi ht => ?_) l.length 0 k (by omega) (by omega)
    rcases (height_at l i hi).2.2 with h | ⟨e, he, h0, h⟩
    · exact h
    · obtain ⟨j, hj, rfl⟩ := List.mem_iff_getElem.1 he
      have := hI j (by omega)
      rw [rd51_at _ j hj] at this
      have h2 := this (by unfold tightE; rw [h0]; exact h)
      rw [h0, ht] at h2
      exact absurd h2 (by decide)
  | d + 1, q, k, T, hq, hT, hI, hk => by
    obtain ⟨k, rfl⟩ : ∃ k', k = k' + 1 + 1 := ⟨k - 2, by omega⟩
    have hlt : q < (edges l).length := by omega
    have hH := heights_len l
    have hU := urges_len l
    obtain ⟨e, he⟩ : ∃ e, e = J51 (edges l) (q : Int) := ⟨_, rfl⟩
    have hm : e ∈ edges l := by rw [he, rd51_at _ q hlt]; exact List.getElem_mem hlt
    obtain ⟨a, b, h1, h2, h3, h4⟩ := edges_range l l.length 0 e hm
    have hd := edges_dist l e hm
    have hh := (height_at l a (by omega)).2.1 e hm h1
    have hu := (urge_at l a (by omega)).2.1 e hm h1
    have step : ∀ v : Bool, (v = false → rdOf false T e.f0 = false ∧ ¬ tightE l e) → w14_DagHigh.l0 k l (edges l) (heights l) (urges l) (T.set a v) ((q + 1 : Nat) : Int) = some true := fun v hv => by
      refine high_l0 l hl ho hE d (q + 1) k _ (by omega) (by simpa using hT) (fun j hj ht => ?_) (by omega)
      by_cases hjq : j = q
      · subst hjq
        rw [← he] at ht ⊢
        rw [h1, tight_same T a v (by omega)]
        cases v with
        | true => rfl
        | false => exact absurd ht (hv rfl).2
      · have hold := hI j (by omega) ht
        have hjl : j < (edges l).length := by omega
        obtain ⟨a2, b2, g1, _⟩ := edges_range l l.length 0 (J51 (edges l) (j : Int)) (by rw [rd51_at _ j hjl]; exact List.getElem_mem hjl)
        rw [g1] at hold ⊢
        by_cases haa : a2 = a
        · subst haa
          rw [tight_same T a2 v (by omega)]
          cases v with
          | true => rfl
          | false => rw [h1] at hv; rw [(hv rfl).1] at hold; exact hold
        · rw [tight_other T a a2 v haa]; exact hold
    have hnum : r0_Num.f e.f2 4 = some true := by
      unfold r0_Num.f
      rw [if_pos hd.1, decide_eq_true hd.2]
    rw [w14_DagHigh.l0, if_pos (by omega), if_pos (by omega), ← he, if_neg (by omega), if_neg (by omega), if_neg (by omega), hnum, Option.bind_some, if_pos rfl, if_pos (by omega), if_pos (by omega), if_pos (by omega), if_pos (by omega), h1, if_neg (by omega), if_pos (by omega), if_pos (by omega), decide_eq_false (by omega)]
    rw [w14_DagHigh.j2, if_neg (by decide), if_pos (by omega), if_pos (by omega), wrap_at (by omega), Int.toNat_natCast]
    cases ht : rdOf false T (a : Int) with
    | true => rw [if_pos rfl]; exact step true (fun h => by cases h)
    | false =>
      rw [if_neg (by decide), if_pos (by omega), if_pos (by omega), if_pos (by omega), if_pos (by omega), if_pos (by omega), ← he]
      refine step _ (fun hv => ⟨by rw [h1]; exact ht, fun hte => ?_⟩)
      unfold tightE at hte
      rw [h1] at hte
      rw [hte] at hv
      simp at hv
theorem mayL_snoc (acc : List S24) (x : S24) (ha : mayL acc = true) (h : acc.length < 40) (hx : mayL [x] = true) : mayL (acc ++ [x]) = true := by
  unfold mayL allPlain at *
  simp only [Bool.and_eq_true, decide_eq_true_eq, List.all_append, List.length_append, List.all_cons, List.all_nil] at *
  refine ⟨by simp; omega, ha.2, hx.2.1, trivial⟩
theorem rowsp_loop (lI : List S24) (hl : lI.length ≤ 1000000) (a b c d e : Int) (s : ByteArray) (lN : List Int) : ∀ (n k i : Nat) (acc : List S24), i + n = lI.length → acc.length ≤ 40 → mayL acc = true → 800 + 2 * n ≤ k →
    ∃ r, r.length ≤ 40 ∧ mayL r = true ∧ w14_rows.l0 k acc (i : Int) lI a b c d e s lN = some (rowsOf lI r)
  | 0, k, i, acc, hi, ha, hm, hk => by
    obtain ⟨k, rfl⟩ : ∃ k', k = k' + 1 + 1 := ⟨k - 2, by omega⟩
    refine ⟨acc, ha, hm, ?_⟩
    rw [w14_rows.l0, if_neg (by omega), rows_end _ _ _ _ _ _ _ _ _ _ (by omega)]
  | n + 1, k, i, acc, hi, ha, hm, hk => by
    obtain ⟨k, rfl⟩ : ∃ k', k = k' + 1 + 1 := ⟨k - 2, by omega⟩
    rw [w14_rows.l0, if_pos (by omega)]
    by_cases h40 : acc.length < 40
    · have hlt : i < lI.length := by omega
      have hseg : List.drop ((i : Int)).toNat (List.take (((i + 1 : Nat) : Int)).toNat lI) = [J24 lI (i : Int)] := by
        rw [Int.toNat_natCast, Int.toNat_natCast, rd_at lI i hlt, List.take_succ_eq_append_getElem hlt, List.drop_append_of_le_length (by simp; omega), List.drop_of_length_le (by simp; omega), List.nil_append]
      rw [show decide ((acc.length : Int) < 40) = true from decide_eq_true (by omega), w14_rows.j1, if_pos rfl, wrap_at (by omega), if_pos (by omega), if_pos (by omega), if_pos (by omega)]
      rw [straight_eq _ (by simp; omega) (by omega), Option.bind_some, hseg]
      cases h1 : mayL [J24 lI (i : Int)] with
      | true =>
        rw [if_pos rfl, if_pos (by omega), if_pos (by omega)]
        exact rowsp_loop lI hl a b c d e s lN n k (i + 1) _ (by omega) (by simp; omega) (mayL_snoc acc _ hm h40 h1) (by omega)
      | false =>
        rw [if_neg (by decide)]
        exact rowsp_loop lI hl a b c d e s lN n k (i + 1) _ (by omega) ha hm (by omega)
    · rw [show decide ((acc.length : Int) < 40) = false from decide_eq_false (by omega)]
      exact ⟨acc, ha, hm, rows_end _ _ _ _ _ _ _ _ _ _ (by omega)⟩
theorem rows_plain {k : Nat} (lI : List S24) (hl : lI.length ≤ 1000000) (a b c d e : Int) (s : ByteArray) (lN : List Int) (hk : 3000000 ≤ k) : ∃ r, r.length ≤ 40 ∧ mayL r = true ∧ w14_rows.f k lI a b c d e s lN = some (rowsOf lI r) := by
  unfold w14_rows.f
  exact rowsp_loop lI hl a b c d e s lN lI.length k 0 [] (by omega) (by simp) rfl (by omega)
theorem high_true (lI : List S24) (x : S24) (lN : List Int) (hin : InAsk lI x lN) : w14_DagHigh.f (30000000 + lI.length) lI x.f0 x.f1 x.f2 x.f3 x.f4 x.f5 lN = some true := by
  obtain ⟨⟨hI, hQ⟩, _, ⟨hN, _⟩⟩ := hin
  obtain ⟨t, t1, t2, t3⟩ := weight_loop lI (by omega) (fun y hy => (hQ y hy).2.2.2.2.2) lI.length (30000000 + lI.length) 0 (lI.length : Int) (by omega) (by omega) (by omega) (by omega)
  unfold w14_DagHigh.f w14_Heavy.f w0_CodesWeight.f
  rw [show ((0 : Nat) : Int) = 0 from rfl] at t3
  rw [t3, Option.bind_some, Option.bind_some]
  have e1 : wrap64 (t + (lN.length : Int)) = t + (lN.length : Int) := by unfold wrap64; omega
  rw [e1]
  by_cases h : t + (lN.length : Int) > 300
  · rw [if_pos (decide_eq_true h)]
  · rw [if_neg (by simpa using h)]
    obtain ⟨r, hr, hp, h2⟩ := rows_plain (k := 30000000 + lI.length) lI (by omega) x.f0 x.f1 x.f2 x.f3 x.f4 x.f5 lN (by omega)
    obtain ⟨h3, h4⟩ := plain_ok hp
    have hE := edges_len r r.length 0
    have hm : r.length * r.length ≤ 40 * 40 := Nat.mul_le_mul hr hr
    obtain ⟨k, hk⟩ : ∃ k, 30000000 + lI.length = k + 1 := ⟨30000000 + lI.length - 1, by omega⟩
    rw [h2, Option.bind_some, if_pos (show ((1 : Int)) < ((rowsOf lI r).length : Int) from (by show (1 : Int) < ((4 : Nat) : Int); omega)), show rd_L4 (rowsOf lI r) 1 = r from rfl, of_eq r (by omega) (by omega), Option.bind_some, heights_eq r (by omega) (by omega), Option.bind_some, urges_eq r (by omega) (by omega), Option.bind_some, if_pos hp, if_pos hp, if_pos hp]
    simp only [w14_num.f, Option.bind_some, heights_len, urges_len, bne_self_eq_false, if_true]
    rw [hk, w14_DagHigh.j0, if_neg (by decide), if_pos (by omega), if_pos (by omega), Int.toNat_natCast]
    refine high_l0 r h3 (okA_L h4) (by unfold edges; omega) (edges r).length 0 k _ (by omega) (by simp) (fun j hj => absurd hj (Nat.not_lt_zero _)) (by unfold edges; omega)
theorem high_walk : LawWalk 6 := by
  intro A0 c0 lI x A1 c1 lN w g0 b0 g1 b1 hin
  exact w14_DagHigh.calls (30000000 + lI.length) A0 c0 lI x.f0 x.f1 x.f2 x.f3 x.f4 x.f5 A1 c1 lN true rfl w g0 b0 g1 b1 (high_true lI x lN hin)
end Go.Proofs.Ytibfkkjkahpobaa.PDag
