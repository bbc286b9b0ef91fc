-- the texts that this claim needs, out of this session's and its print's (wip/shrink.py)
import Derived.Test.YtibfkkjkahpobaaAskS
import Derived.Test.YtibfkkjkahpobaaDagBackS
import Derived.Test.YtibfkkjkahpobaaPDagx21S
namespace Go.Proofs.Ytibfkkjkahpobaa.PDag
open Go.RowKit Go.Proofs.YtibfkkjkahpobaaW.PrintWords Go.Proofs.YtibfkkjkahpobaaW.PrintLast Go.Proofs.YtibfkkjkahpobaaW.PrintMore
set_option linter.unusedVariables false
set_option linter.unusedSimpArgs false
theorem copy_loop (l : List S24) (hl : l.length ≤ 1000000000) : ∀ (d k i : Nat) (acc : List S24), i + d = l.length → acc.length = i → 1 + d ≤ k → r0_CopyCodes.l0 k l acc (i : Int) = some (acc ++ l.drop i)
  | 0, k, i, acc, hi, ha, hk => by
    obtain ⟨k, rfl⟩ : ∃ k', k = k' + 1 := ⟨k - 1, by omega⟩
    unfold r0_CopyCodes.l0
    rw [if_neg (by omega), List.drop_of_length_le (by omega), List.append_nil]
  | d + 1, k, i, acc, hi, ha, hk => by
    obtain ⟨k, rfl⟩ : ∃ k', k = k' + 1 := ⟨k - 1, by omega⟩
    have hlt : i < l.length := by omega
    unfold r0_CopyCodes.l0
    rw [if_pos (by omega), if_pos (by omega), if_pos (by omega), wrap_at (by omega), copy_loop l hl d k (i + 1) _ (by omega) (by simp; omega) (by omega), rd_at l i hlt, List.drop_eq_getElem_cons hlt, List.append_assoc]
    rfl
theorem copy_eq {k : Nat} (l : List S24) (hl : l.length ≤ 1000000) (hk : 2000000 ≤ k) : r0_CopyCodes.f k l = some l := by
  unfold r0_CopyCodes.f
  have := copy_loop l (by omega) l.length k 0 [] (by omega) rfl (by omega)
  simpa using this
theorem eqcodes_loop (l : List S24) (hl : l.length ≤ 1000000000) : ∀ (d k i : Nat), i + d = l.length → 1 + d ≤ k → r0_EqCodes.l0 k l l (i : Int) = some true
  | 0, k, i, hi, hk => by
    obtain ⟨k, rfl⟩ : ∃ k', k = k' + 1 := ⟨k - 1, by omega⟩
    unfold r0_EqCodes.l0
    rw [if_neg (by omega)]
  | d + 1, k, i, hi, hk => by
    obtain ⟨k, rfl⟩ : ∃ k', k = k' + 1 := ⟨k - 1, by omega⟩
    unfold r0_EqCodes.l0
    rw [if_pos (by omega), if_pos (by omega), if_pos (by omega), wrap_at (by omega), eqcodes_loop l hl d k (i + 1) (by omega) (by omega)]
    simp
theorem eqcodes_eq {k : Nat} (l : List S24) (hl : l.length ≤ 1000000) (hk : 2000000 ≤ k) : r0_EqCodes.f k l l = some true := by
  unfold r0_EqCodes.f
  rw [if_pos rfl]
  exact eqcodes_loop l (by omega) l.length k 0 (by omega) (by omega)
theorem eqedges_loop (l : List S51) (hl : l.length ≤ 1000000000) : ∀ (d k i : Nat), i + d = l.length → 1 + d ≤ k → r0_EqEdges.l0 k l l (i : Int) = some true
  | 0, k, i, hi, hk => by
    obtain ⟨k, rfl⟩ : ∃ k', k = k' + 1 := ⟨k - 1, by omega⟩
    unfold r0_EqEdges.l0
    rw [if_neg (by omega)]
  | d + 1, k, i, hi, hk => by
    obtain ⟨k, rfl⟩ : ∃ k', k = k' + 1 := ⟨k - 1, by omega⟩
    unfold r0_EqEdges.l0
    rw [if_pos (by omega), if_pos (by omega), if_pos (by omega), wrap_at (by omega), eqedges_loop l hl d k (i + 1) (by omega) (by omega)]
    simp
theorem eqedges_eq {k : Nat} (l : List S51) (hl : l.length ≤ 1000000) (hk : 2000000 ≤ k) : r0_EqEdges.f k l l = some true := by
  unfold r0_EqEdges.f
  rw [if_pos rfl]
  exact eqedges_loop l (by omega) l.length k 0 (by omega) (by omega)
theorem eqnums_loop (l : List Int) (hl : l.length ≤ 1000000000) : ∀ (d k i : Nat), i + d = l.length → 1 + d ≤ k → r0_EqNumbers.l0 k l l (i : Int) = some true
  | 0, k, i, hi, hk => by
    obtain ⟨k, rfl⟩ : ∃ k', k = k' + 1 := ⟨k - 1, by omega⟩
    unfold r0_EqNumbers.l0
    rw [if_neg (by omega)]
  | d + 1, k, i, hi, hk => by
    obtain ⟨k, rfl⟩ : ∃ k', k = k' + 1 := ⟨k - 1, by omega⟩
    unfold r0_EqNumbers.l0
    rw [if_pos (by omega), if_pos (by omega), if_pos (by omega), if_pos rfl, wrap_at (by omega), eqnums_loop l hl d k (i + 1) (by omega) (by omega)]
theorem eqnums_eq {k : Nat} (l : List Int) (hl : l.length ≤ 1000000) (hk : 2000000 ≤ k) : r0_EqNumbers.f k l l = some true := by
  unfold r0_EqNumbers.f
  rw [if_pos rfl]
  exact eqnums_loop l (by omega) l.length k 0 (by omega) (by omega)
theorem plain_ok {l : List S24} (h : mayL l = true) : l.length ≤ 200 ∧ okA l := by
  unfold mayL allPlain at h
  simp only [Bool.and_eq_true, decide_eq_true_eq, List.all_eq_true] at h
  refine ⟨h.1, fun x hx => ?_⟩
  have := h.2 x hx
  unfold plainI at this
  simp only [Bool.and_eq_true] at this
  exact this.1
theorem of_eq {k : Nat} (l : List S24) (hl : l.length ≤ 1000000) (hk : 60000 ≤ k) : dag_Of.f k l = some (if mayL l = true then (edges l, 0) else ([], 1)) := by
  unfold dag_Of.f
  rw [may_eq l (by omega) (by omega)]
  simp only [Option.bind_some]
  cases h : mayL l with
  | false => rfl
  | true =>
    obtain ⟨h1, h2⟩ := plain_ok h
    rw [own_edges l h1 (okA_L h2) (by omega)]; rfl
theorem heights_eq {k : Nat} (l : List S24) (hl : l.length ≤ 1000000) (hk : 60000 ≤ k) : dag_Heights.f k l = some (if mayL l = true then (heights l, 0) else ([], 1)) := by
  unfold dag_Heights.f
  rw [may_eq l (by omega) (by omega)]
  simp only [Option.bind_some]
  cases h : mayL l with
  | false => rfl
  | true =>
    obtain ⟨h1, h2⟩ := plain_ok h
    rw [own_edges l h1 (okA_L h2) (by omega)]
    simp only [Option.bind_some, if_true]
    rw [high_eq (by omega) l h1 h2]; rfl
theorem urges_eq {k : Nat} (l : List S24) (hl : l.length ≤ 1000000) (hk : 60000 ≤ k) : dag_Urges.f k l = some (if mayL l = true then (urges l, 0) else ([], 1)) := by
  unfold dag_Urges.f
  rw [may_eq l (by omega) (by omega)]
  simp only [Option.bind_some]
  cases h : mayL l with
  | false => rfl
  | true =>
    obtain ⟨h1, h2⟩ := plain_ok h
    rw [own_edges l h1 (okA_L h2) (by omega)]
    simp only [Option.bind_some, if_true]
    rw [urge_eq (by omega) l h1 h2]; rfl
theorem wakes_eq {k : Nat} (hk : 1000 ≤ k) : w14_wakes.f k = some true :=
  at_rounds w14_wakes.mono hk (show w14_wakes.f 1000 = some true by kernel_rfl)
theorem edges_j2 {k : Nat} (L : List (List S24)) (i : Nat) (hi : i ≤ 100) : w14_DagEdges.j2 (k + 1) L (i : Int) false = w14_DagEdges.l0 k L ((i + 1 : Nat) : Int) := by
  rw [w14_DagEdges.j2, if_neg (by decide), wrap_at (by omega)]
theorem edges_j1 {k : Nat} (hk : 2000000 ≤ k) (L : List (List S24)) (i : Nat) (hi : i < L.length) (hL : L.length ≤ 100) (l : List S24) (hl : rd_L5 L (i : Int) = l) (hb : l.length ≤ 1000000) (E : List S51) (H U : List Int) (c : Int) (hE : E.length ≤ 1000000) (hH : H.length ≤ 1000000) (hU : U.length ≤ 1000000) :
    w14_DagEdges.j1 (k + 1 + 1) L (i : Int) l E c H c U c c E H U = w14_DagEdges.l0 k L ((i + 1 : Nat) : Int) := by
  rw [w14_DagEdges.j1]
  unfold w14_num.f
  rw [Option.bind_some, if_pos rfl, eqedges_eq E hE (by omega), Option.bind_some, if_pos rfl, Option.bind_some, if_pos rfl, eqnums_eq H hH (by omega), Option.bind_some, if_pos rfl, Option.bind_some, if_pos rfl, eqnums_eq U hU (by omega), Option.bind_some, if_pos rfl, if_pos (by omega), if_pos (by omega), hl, eqcodes_eq l hb (by omega), Option.bind_some]
  exact edges_j2 L i (by omega)
theorem edges_round {k : Nat} (hk : 20000000 ≤ k) (L : List (List S24)) (i : Nat) (hi : i < L.length) (hL : L.length ≤ 100) (l : List S24) (hl : rd_L5 L (i : Int) = l) (hb : l.length ≤ 1000000) :
    w14_DagEdges.l0 (k + 1 + 1 + 1) L (i : Int) = w14_DagEdges.l0 k L ((i + 1 : Nat) : Int) := by
  rw [w14_DagEdges.l0, if_pos (by omega), if_pos (by omega), hl, copy_eq l hb (by omega), Option.bind_some, of_eq l hb (by omega), Option.bind_some, heights_eq l hb (by omega), Option.bind_some, urges_eq l hb (by omega), Option.bind_some, straight_eq l (by omega) (by omega), Option.bind_some]
  cases h : mayL l with
  | false =>
    rw [if_neg (by decide)]
    exact edges_j1 (by omega) L i hi hL l hl hb [] [] [] 1 (by simp) (by simp) (by simp)
  | true =>
    obtain ⟨h1, h2⟩ := plain_ok h
    rw [if_pos rfl, ref_edges l h1 (okA_L h2) (by omega), Option.bind_some, rheights_eq (by omega) l h1 h2, Option.bind_some, rurges_eq (by omega) l h1 h2, Option.bind_some]
    have he := edges_len l l.length 0
    have hm : l.length * l.length ≤ 200 * 200 := Nat.mul_le_mul h1 h1
    exact edges_j1 (by omega) L i hi hL l hl hb (edges l) (heights l) (urges l) 0 (by unfold edges; omega) (by rw [heights, gAt_len]; simp [lates]; omega) (by rw [urges, gAt_len, firsts_len]; omega)
def rowsOf (lI r : List S24) : List (List S24) := [lI, r, r.take (r.length / 2), []]
theorem rows_end {k : Nat} (lI acc : List S24) (i : Int) (a b c d e : Int) (s : ByteArray) (lN : List Int) (h : acc.length ≤ 1000) : w14_rows.j1 (k + 1) acc i false lI a b c d e s lN = some (rowsOf lI acc) := by
  have e1 : wrap64 ((acc.length : Int) / 2) = ((acc.length / 2 : Nat) : Int) := by unfold wrap64; omega
  rw [w14_rows.j1, if_neg (by decide), e1, if_pos (by omega), if_pos (by omega), Int.toNat_natCast]
  rfl
theorem rows_loop (lI : List S24) (hl : lI.length ≤ 1000000) (a b c d e : Int) (s : ByteArray) (lN : List Int) : ∀ (n k i : Nat) (acc : List S24), i + n = lI.length → acc.length ≤ 40 → 800 + 2 * n ≤ k →
    ∃ r, r.length ≤ 40 ∧ w14_rows.l0 k acc (i : Int) lI a b c d e s lN = some (rowsOf lI r)
  | 0, k, i, acc, hi, ha, hk => by
    obtain ⟨k, rfl⟩ : ∃ k', k = k' + 1 + 1 := ⟨k - 2, by omega⟩
    refine ⟨acc, ha, ?_⟩
    rw [w14_rows.l0, if_neg (by omega), rows_end _ _ _ _ _ _ _ _ _ _ (by omega)]
  | n + 1, k, i, acc, hi, ha, hk => by
    obtain ⟨k, rfl⟩ : ∃ k', k = k' + 1 + 1 := ⟨k - 2, by omega⟩
    rw [w14_rows.l0, if_pos (by omega)]
    by_cases h40 : acc.length < 40
    · rw [show decide ((acc.length : Int) < 40) = true from decide_eq_true (by omega), w14_rows.j1, if_pos rfl, wrap_at (by omega), if_pos (by omega), if_pos (by omega), if_pos (by omega)]
      rw [straight_eq _ (by simp; omega) (by omega), Option.bind_some]
      cases mayL (List.drop ((i : Int)).toNat (List.take (((i + 1 : Nat) : Int)).toNat lI)) with
      | true =>
        rw [if_pos rfl, if_pos (by omega), if_pos (by omega)]
        exact rows_loop lI hl a b c d e s lN n k (i + 1) _ (by omega) (by simp; omega) (by omega)
      | false =>
        rw [if_neg (by decide)]
        exact rows_loop lI hl a b c d e s lN n k (i + 1) _ (by omega) ha (by omega)
    · rw [show decide ((acc.length : Int) < 40) = false from decide_eq_false (by omega)]
      exact ⟨acc, ha, rows_end _ _ _ _ _ _ _ _ _ _ (by omega)⟩
theorem rows_eq {k : Nat} (lI : List S24) (hl : lI.length ≤ 1000000) (a b c d e : Int) (s : ByteArray) (lN : List Int) (hk : 3000000 ≤ k) : ∃ r, r.length ≤ 40 ∧ w14_rows.f k lI a b c d e s lN = some (rowsOf lI r) := by
  unfold w14_rows.f
  exact rows_loop lI hl a b c d e s lN lI.length k 0 [] (by omega) (by simp) (by omega)
theorem weight_loop (lI : List S24) (hl : lI.length ≤ 10000000000000) (hs : ∀ x ∈ lI, StrOk x.f5) : ∀ (n k i : Nat) (v : Int), i + n = lI.length → (lI.length : Int) ≤ v → v ≤ 1000000000000000 → 1 + n ≤ k →
    ∃ t : Int, (lI.length : Int) ≤ t ∧ t ≤ 1000000000000000 ∧ w0_CodesWeight.l0 k lI v (i : Int) = some t
  | 0, k, i, v, hi, h1, h2, hk => by
    obtain ⟨k, rfl⟩ : ∃ k', k = k' + 1 := ⟨k - 1, by omega⟩
    refine ⟨v, h1, h2, ?_⟩
    rw [w0_CodesWeight.l0, if_neg (by omega)]
  | n + 1, k, i, v, hi, h1, h2, hk => by
    obtain ⟨k, rfl⟩ : ∃ k', k = k' + 1 := ⟨k - 1, by omega⟩
    have hlt : i < lI.length := by omega
    rw [w0_CodesWeight.l0, if_pos (by omega)]
    by_cases hv : v < 1048576
    · have hz := hs lI[i] (List.getElem_mem hlt)
      unfold StrOk at hz
      have e1 : wrap64 (((lI[i].f5.size : Nat) : Int) / 8) = ((lI[i].f5.size / 8 : Nat) : Int) := by unfold wrap64; omega
      have e2 : wrap64 (v + ((lI[i].f5.size / 8 : Nat) : Int)) = v + ((lI[i].f5.size / 8 : Nat) : Int) := by unfold wrap64; omega
      rw [if_pos hv, if_pos (by omega), rd_at lI i hlt, wrap_at (by omega), e1, e2]
      exact weight_loop lI hl hs n k (i + 1) _ (by omega) (by omega) (by omega) (by omega)
    · rw [if_neg hv]
      exact ⟨v, h1, h2, rfl⟩
theorem rd_rows (lI r : List S24) : rd_L5 (rowsOf lI r) ((0 : Nat) : Int) = lI ∧ rd_L5 (rowsOf lI r) ((1 : Nat) : Int) = r ∧ rd_L5 (rowsOf lI r) ((2 : Nat) : Int) = r.take (r.length / 2) ∧ rd_L5 (rowsOf lI r) ((3 : Nat) : Int) = [] := ⟨rfl, rfl, rfl, rfl⟩
theorem edges_true (lI : List S24) (x : S24) (lN : List Int) (hin : InAsk lI x lN) : w14_DagEdges.f (30000000 + lI.length) lI x.f0 x.f1 x.f2 x.f3 x.f4 x.f5 lN = some true := by
  obtain ⟨⟨hI, hQ⟩, _, ⟨hN, _⟩⟩ := hin
  obtain ⟨t, t1, t2, t3⟩ := weight_loop lI (by omega) (fun y hy => (hQ y hy).2.2.2.2.2) lI.length (30000000 + lI.length) 0 (lI.length : Int) (by omega) (by omega) (by omega) (by omega)
  unfold w14_DagEdges.f w14_Heavy.f w0_CodesWeight.f
  rw [show (0 : Int) = ((0 : Nat) : Int) from rfl, t3, Option.bind_some, Option.bind_some]
  have e1 : wrap64 (t + (lN.length : Int)) = t + (lN.length : Int) := by unfold wrap64; omega
  rw [e1]
  by_cases h : t + (lN.length : Int) > 300
  · rw [if_pos (decide_eq_true h)]
  · rw [if_neg (by simpa using h)]
    obtain ⟨r, hr, h2⟩ := rows_eq (k := 30000000 + lI.length) lI (by omega) x.f0 x.f1 x.f2 x.f3 x.f4 x.f5 lN (by omega)
    rw [h2, Option.bind_some]
    obtain ⟨k, hk⟩ : ∃ k, 30000000 + lI.length = (((k + 1) + 1 + 1 + 1) + 1 + 1 + 1) + 1 + 1 + 1 + 1 + 1 + 1 := ⟨30000000 + lI.length - 13, by omega⟩
    have hlen : (rowsOf lI r).length = 4 := rfl
    obtain ⟨g0, g1, g2, g3⟩ := rd_rows lI r
    rw [hk, edges_round (by omega) _ 0 (by omega) (by omega) _ g0 (by omega), edges_round (by omega) _ 1 (by omega) (by omega) _ g1 (by omega), edges_round (by omega) _ 2 (by omega) (by omega) _ g2 (by simp; omega), edges_round (by omega) _ 3 (by omega) (by omega) _ g3 (by simp)]
    rw [w14_DagEdges.l0, if_neg (by omega), wakes_eq (by omega)]
    rfl
theorem edges_walk : LawWalk 5 := by
  intro A0 c0 lI x A1 c1 lN w g0 b0 g1 b1 hin
  exact w14_DagEdges.calls (30000000 + lI.length) A0 c0 lI x.f0 x.f1 x.f2 x.f3 x.f4 x.f5 A1 c1 lN true w g0 b0 g1 b1 (edges_true lI x lN hin)
end Go.Proofs.Ytibfkkjkahpobaa.PDag
