-- the texts that this claim needs, out of this session's and its print's (wip/shrink.py)
import Derived.Test.YtibfkkjkahpobaaAskK
import Derived.Test.YtibfkkjkahpobaaEdgesPureK
import Derived.Test.YtibfkkjkahpobaaPDagx15K
namespace Go.Proofs.Ytibfkkjkahpobaa.PDag
open Go.RowKit Go.Proofs.YtibfkkjkahpobaaW.PrintWords Go.Proofs.YtibfkkjkahpobaaW.PrintLast Go.Proofs.YtibfkkjkahpobaaW.PrintMore
set_option linter.unusedVariables false
set_option linter.unusedSimpArgs false
def mkI (op d a b : Int) : S24 := ⟨op, if hasD (formOf op) = true then d else 0, if hasA (formOf op) = true then a else 0, if hasB (formOf op) = true then b else 0, 0, (⟨#[]⟩ : ByteArray)⟩
theorem reg_mk (h : Bool) (n : Int) (h0 : 0 ≤ n) (h1 : n ≤ 15) : regOk h (if h = true then n else 0) = true := by
  cases h <;> simp [regOk, h0, h1]
theorem imm_mk (op : Int) (h0 : 0 ≤ op) (h1 : op ≤ 33) : 1 ≤ op → op < 28 → immOk (formOf op) 0 (⟨#[]⟩ : ByteArray) = true := upto34 (p := fun op => 1 ≤ op → op < 28 → immOk (formOf op) 0 (⟨#[]⟩ : ByteArray) = true) (by decide +kernel) op h0 h1
theorem mkI_plain (op d a b : Int) (h0 : 1 ≤ op) (h1 : op < 28) (hd : 0 ≤ d ∧ d ≤ 15) (ha : 0 ≤ a ∧ a ≤ 15) (hb : 0 ≤ b ∧ b ≤ 15) : plainI (mkI op d a b) = true := by
  unfold plainI okI insOk endsOp mkI
  simp only [reg_mk _ _ hd.1 hd.2, reg_mk _ _ ha.1 ha.2, reg_mk _ _ hb.1 hb.2, imm_mk op (by omega) (by omega) h0 h1, Bool.and_true, Bool.true_and, Bool.and_eq_true, decide_eq_true_eq, Bool.not_eq_true', Bool.and_eq_false_imp, decide_eq_false_iff_not, bne_iff_ne, ne_eq]
  omega
theorem kj3 {k : Nat} (rs : List Int) (n a b fa fb : Int) (hl : rs.length = 6) (h0 : 0 ≤ fa) (h1 : fa ≤ 9) (hk : 10 ≤ k) (lI : List S24) (c0 c1 c2 c3 c4 : Int) (s : ByteArray) (lN : List Int) (x0 x1 x2 x3 x4 : Int) (x5 : ByteArray) (y0 y1 y2 y3 y4 : Int) (y5 : ByteArray) :
    w14_DagKinds.j3 (k + 1) a b n rs fa fb lI c0 c1 c2 c3 c4 s lN x0 x1 x2 x3 x4 x5 y0 y1 y2 y3 y4 y5 = w14_DagKinds.j4 k a b n rs fa fb lI c0 c1 c2 c3 c4 s lN x0 x1 (if hasA fa = true then rd rs 1 else x2) x3 x4 x5 y0 y1 y2 y3 y4 y5 := by
  rw [w14_DagKinds.j3, ref_hasA _ h0 h1, Option.bind_some]
  cases hasA fa with
  | true => rw [if_pos rfl, if_pos (by rw [hl]; decide)]; rfl
  | false => rw [if_neg (by decide)]; rfl
theorem kj4 {k : Nat} (rs : List Int) (n a b fa fb : Int) (hl : rs.length = 6) (h0 : 0 ≤ fa) (h1 : fa ≤ 9) (hk : 10 ≤ k) (lI : List S24) (c0 c1 c2 c3 c4 : Int) (s : ByteArray) (lN : List Int) (x0 x1 x2 x3 x4 : Int) (x5 : ByteArray) (y0 y1 y2 y3 y4 : Int) (y5 : ByteArray) :
    w14_DagKinds.j4 (k + 1) a b n rs fa fb lI c0 c1 c2 c3 c4 s lN x0 x1 x2 x3 x4 x5 y0 y1 y2 y3 y4 y5 = w14_DagKinds.j5 k a b n rs fb lI c0 c1 c2 c3 c4 s lN x0 x1 x2 (if hasB fa = true then rd rs 2 else x3) x4 x5 y0 y1 y2 y3 y4 y5 := by
  rw [w14_DagKinds.j4, ref_hasB _ h0 h1, Option.bind_some]
  cases hasB fa with
  | true => rw [if_pos rfl, if_pos (by rw [hl]; decide)]; rfl
  | false => rw [if_neg (by decide)]; rfl
theorem kj5 {k : Nat} (rs : List Int) (n a b fa fb : Int) (hl : rs.length = 6) (h0 : 0 ≤ fb) (h1 : fb ≤ 9) (hk : 10 ≤ k) (lI : List S24) (c0 c1 c2 c3 c4 : Int) (s : ByteArray) (lN : List Int) (x0 x1 x2 x3 x4 : Int) (x5 : ByteArray) (y0 y1 y2 y3 y4 : Int) (y5 : ByteArray) :
    w14_DagKinds.j5 (k + 1) a b n rs fb lI c0 c1 c2 c3 c4 s lN x0 x1 x2 x3 x4 x5 y0 y1 y2 y3 y4 y5 = w14_DagKinds.j6 k a b n rs fb lI c0 c1 c2 c3 c4 s lN x0 x1 x2 x3 x4 x5 y0 (if hasD fb = true then rd rs 3 else y1) y2 y3 y4 y5 := by
  rw [w14_DagKinds.j5, ref_hasD _ h0 h1, Option.bind_some]
  cases hasD fb with
  | true => rw [if_pos rfl, if_pos (by rw [hl]; decide)]; rfl
  | false => rw [if_neg (by decide)]; rfl
theorem kj6 {k : Nat} (rs : List Int) (n a b fa fb : Int) (hl : rs.length = 6) (h0 : 0 ≤ fb) (h1 : fb ≤ 9) (hk : 10 ≤ k) (lI : List S24) (c0 c1 c2 c3 c4 : Int) (s : ByteArray) (lN : List Int) (x0 x1 x2 x3 x4 : Int) (x5 : ByteArray) (y0 y1 y2 y3 y4 : Int) (y5 : ByteArray) :
    w14_DagKinds.j6 (k + 1) a b n rs fb lI c0 c1 c2 c3 c4 s lN x0 x1 x2 x3 x4 x5 y0 y1 y2 y3 y4 y5 = w14_DagKinds.j7 k a b n rs fb lI c0 c1 c2 c3 c4 s lN x0 x1 x2 x3 x4 x5 y0 y1 (if hasA fb = true then rd rs 4 else y2) y3 y4 y5 := by
  rw [w14_DagKinds.j6, ref_hasA _ h0 h1, Option.bind_some]
  cases hasA fb with
  | true => rw [if_pos rfl, if_pos (by rw [hl]; decide)]; rfl
  | false => rw [if_neg (by decide)]; rfl
theorem kj7 {k : Nat} (rs : List Int) (n a b fa fb : Int) (hl : rs.length = 6) (h0 : 0 ≤ fb) (h1 : fb ≤ 9) (hk : 10 ≤ k) (lI : List S24) (c0 c1 c2 c3 c4 : Int) (s : ByteArray) (lN : List Int) (x0 x1 x2 x3 x4 : Int) (x5 : ByteArray) (y0 y1 y2 y3 y4 : Int) (y5 : ByteArray) :
    w14_DagKinds.j7 (k + 1) a b n rs fb lI c0 c1 c2 c3 c4 s lN x0 x1 x2 x3 x4 x5 y0 y1 y2 y3 y4 y5 = w14_DagKinds.j8 k a b n lI c0 c1 c2 c3 c4 s lN x0 x1 x2 x3 x4 x5 y0 y1 y2 (if hasB fb = true then rd rs 5 else y3) y4 y5 := by
  rw [w14_DagKinds.j7, ref_hasB _ h0 h1, Option.bind_some]
  cases hasB fb with
  | true => rw [if_pos rfl, if_pos (by rw [hl]; decide)]; rfl
  | false => rw [if_neg (by decide)]; rfl
def tblK : List (List Int) := [[1, 2, 3, 4, 5, 6], [1, 2, 3, 1, 1, 5], [1, 2, 3, 2, 5, 3], [1, 1, 1, 1, 1, 1]]
theorem kl2 {k : Nat} (rs : List Int) (n a b : Int) (hn : 0 ≤ n) (hn4 : n < 4) (hrs : rd_L4 tblK n = rs) (hl : rs.length = 6) (a0 : 0 ≤ a) (a1 : a ≤ 33) (b0 : 0 ≤ b) (b1 : b ≤ 33) (hk : 10 ≤ k) (lI : List S24) (c0 c1 c2 c3 c4 : Int) (s : ByteArray) (lN : List Int) :
    w14_DagKinds.l2 (k + 1) a b n lI c0 c1 c2 c3 c4 s lN = w14_DagKinds.j3 k a b n rs (formOf a) (formOf b) lI c0 c1 c2 c3 c4 s lN a (if hasD (formOf a) = true then rd rs 0 else 0) 0 0 0 (⟨#[]⟩ : ByteArray) b 0 0 0 0 (⟨#[]⟩ : ByteArray) := by
  obtain ⟨fa0, fa1⟩ := formOf_range a a0 a1
  rw [w14_DagKinds.l2, if_pos hn4, Option.bind_some, if_pos hn, show ([([1, 2, 3, 4, 5, 6] : List Int), ([1, 2, 3, 1, 1, 5] : List Int), ([1, 2, 3, 2, 5, 3] : List Int), ([1, 1, 1, 1, 1, 1] : List Int)] : List (List Int)) = tblK from rfl, if_pos (show n < (tblK.length : Int) from hn4), form_eq a a0 a1, Option.bind_some, form_eq b b0 b1, Option.bind_some, ref_hasD _ fa0 fa1, Option.bind_some, hrs]
  cases hasD (formOf a) with
  | true => rw [if_pos rfl, if_pos (by rw [hl]; decide)]; rfl
  | false => rw [if_neg (by decide)]; rfl
theorem kj8 {k : Nat} (hk : 20000000 ≤ k) (x y : S24) (h : mayL [x, y] = true) (n : Nat) (hn : n < 4) (a b : Int) (lI : List S24) (c0 c1 c2 c3 c4 : Int) (s : ByteArray) (lN : List Int) :
    w14_DagKinds.j8 (k + 1 + 1) a b (n : Int) lI c0 c1 c2 c3 c4 s lN x.f0 x.f1 x.f2 x.f3 x.f4 x.f5 y.f0 y.f1 y.f2 y.f3 y.f4 y.f5 = w14_DagKinds.l2 k a b ((n + 1 : Nat) : Int) lI c0 c1 c2 c3 c4 s lN := by
  obtain ⟨h1, h2⟩ := plain_ok h
  have he := edges_len [x, y] [x, y].length 0
  rw [w14_DagKinds.j8, Option.bind_some, show ([(⟨x.f0, x.f1, x.f2, x.f3, x.f4, x.f5⟩ : S24), (⟨y.f0, y.f1, y.f2, y.f3, y.f4, y.f5⟩ : S24)] : List S24) = [x, y] from rfl]
  rw [of_eq [x, y] (by show 2 ≤ 1000000; omega) (by omega), Option.bind_some, heights_eq [x, y] (by show 2 ≤ 1000000; omega) (by omega), Option.bind_some, if_pos h, if_pos h]
  unfold w14_num.f
  rw [Option.bind_some, if_pos rfl, Option.bind_some, if_pos rfl, ref_edges [x, y] h1 (okA_L h2) (by omega), Option.bind_some, eqedges_eq (edges [x, y]) (by unfold edges; simp only [List.length_cons, List.length_nil] at he ⊢; omega) (by omega), Option.bind_some, if_pos rfl,
    rheights_eq (by omega) [x, y] h1 h2, Option.bind_some, eqnums_eq (heights [x, y]) (by rw [heights, gAt_len]; simp [lates]) (by omega), Option.bind_some, w14_DagKinds.j9, if_neg (by decide), wrap_at (by omega)]
theorem kround {k : Nat} (hk : 20000000 ≤ k) (rs : List Int) (n : Nat) (hn : n < 4) (hrs : rd_L4 tblK (n : Int) = rs) (hl : rs.length = 6) (hr : ∀ i : Nat, i < 6 → 0 ≤ rd rs i ∧ rd rs i ≤ 15) (a b : Int) (a0 : 1 ≤ a) (a1 : a < 28) (b0 : 1 ≤ b) (b1 : b < 28) (lI : List S24) (c0 c1 c2 c3 c4 : Int) (s : ByteArray) (lN : List Int) :
    w14_DagKinds.l2 (k + 1 + 1 + 1 + 1 + 1 + 1 + 1 + 1) a b (n : Int) lI c0 c1 c2 c3 c4 s lN = w14_DagKinds.l2 k a b ((n + 1 : Nat) : Int) lI c0 c1 c2 c3 c4 s lN := by
  obtain ⟨fa0, fa1⟩ := formOf_range a (by omega) (by omega)
  obtain ⟨fb0, fb1⟩ := formOf_range b (by omega) (by omega)
  rw [kl2 rs n a b (by omega) (by omega) hrs hl (by omega) (by omega) (by omega) (by omega) (by omega), kj3 rs n a b _ _ hl fa0 fa1 (by omega), kj4 rs n a b _ _ hl fa0 fa1 (by omega),
    kj5 rs n a b (formOf a) _ hl fb0 fb1 (by omega), kj6 rs n a b (formOf a) _ hl fb0 fb1 (by omega), kj7 rs n a b (formOf a) _ hl fb0 fb1 (by omega)]
  refine kj8 hk (mkI a (rd rs 0) (rd rs 1) (rd rs 2)) (mkI b (rd rs 3) (rd rs 4) (rd rs 5)) ?_ n hn a b lI c0 c1 c2 c3 c4 s lN
  have r0 : 0 ≤ rd rs 0 ∧ rd rs 0 ≤ 15 := hr 0 (by omega)
  have r1 : 0 ≤ rd rs 1 ∧ rd rs 1 ≤ 15 := hr 1 (by omega)
  have r2 : 0 ≤ rd rs 2 ∧ rd rs 2 ≤ 15 := hr 2 (by omega)
  have r3 : 0 ≤ rd rs 3 ∧ rd rs 3 ≤ 15 := hr 3 (by omega)
  have r4 : 0 ≤ rd rs 4 ∧ rd rs 4 ≤ 15 := hr 4 (by omega)
  have r5 : 0 ≤ rd rs 5 ∧ rd rs 5 ≤ 15 := hr 5 (by omega)
  show (decide (2 ≤ 200) && (plainI (mkI a (rd rs 0) (rd rs 1) (rd rs 2)) && (plainI (mkI b (rd rs 3) (rd rs 4) (rd rs 5)) && true))) = true
  rw [mkI_plain a _ _ _ a0 a1 r0 r1 r2, mkI_plain b _ _ _ b0 b1 r3 r4 r5]; rfl
theorem kl2_true {K : Nat} (hK : 20000000 ≤ K) (a b : Int) (a0 : 1 ≤ a) (a1 : a < 28) (b0 : 1 ≤ b) (b1 : b < 28) (lI : List S24) (c0 c1 c2 c3 c4 : Int) (s : ByteArray) (lN : List Int) (next : ∀ k, K ≤ k → w14_DagKinds.l1 k a (b + 1 + (lI.length % 2 : Nat)) lI c0 c1 c2 c3 c4 s lN = some true) :
    ∀ (m n : Nat), n + m = 4 → ∀ k, K + 10 * (m + 1) ≤ k → w14_DagKinds.l2 k a b (n : Int) lI c0 c1 c2 c3 c4 s lN = some true
  | 0, n, h, k, hk => by
    obtain ⟨k, rfl⟩ : ∃ j, k = j + 1 := ⟨k - 1, by omega⟩
    rw [w14_DagKinds.l2, if_neg (by omega)]
    have e1 : wrap64 (b + 1) = b + 1 := by unfold wrap64; omega
    have e2 : wrap64 (b + 1 + (lI.length : Int) % 2) = b + 1 + ((lI.length % 2 : Nat) : Int) := by unfold wrap64; omega
    rw [e1, e2]
    exact next k (by omega)
  | m + 1, n, h, k, hk => by
    obtain ⟨k, rfl⟩ : ∃ j, k = j + 1 + 1 + 1 + 1 + 1 + 1 + 1 + 1 := ⟨k - 8, by omega⟩
    have hn : n = 0 ∨ n = 1 ∨ n = 2 ∨ n = 3 := by omega
    have go : ∀ rs : List Int, rd_L4 tblK (n : Int) = rs → rs.length = 6 → (∀ i : Nat, i < 6 → 0 ≤ rd rs i ∧ rd rs i ≤ 15) → w14_DagKinds.l2 (k + 1 + 1 + 1 + 1 + 1 + 1 + 1 + 1) a b (n : Int) lI c0 c1 c2 c3 c4 s lN = some true := fun rs h1 h2 h3 => by
      rw [kround (by omega) rs n (by omega) h1 h2 h3 a b a0 a1 b0 b1]
      exact kl2_true hK a b a0 a1 b0 b1 lI c0 c1 c2 c3 c4 s lN next m (n + 1) (by omega) k (by omega)
    rcases hn with rfl | rfl | rfl | rfl
    · exact go [1, 2, 3, 4, 5, 6] rfl rfl (by decide)
    · exact go [1, 2, 3, 1, 1, 5] rfl rfl (by decide)
    · exact go [1, 2, 3, 2, 5, 3] rfl rfl (by decide)
    · exact go [1, 1, 1, 1, 1, 1] rfl rfl (by decide)
theorem kl1_true {K : Nat} (hK : 20000000 ≤ K) (a : Int) (a0 : 1 ≤ a) (a1 : a < 28) (lI : List S24) (c0 c1 c2 c3 c4 : Int) (s : ByteArray) (lN : List Int) (next : ∀ k, K ≤ k → w14_DagKinds.l0 k (a + 1) lI c0 c1 c2 c3 c4 s lN = some true) :
    ∀ (d : Nat) (b : Int), 28 ≤ b + d → 1 ≤ b → b ≤ 30 → ∀ k, K + 60 * (d + 1) ≤ k → w14_DagKinds.l1 k a b lI c0 c1 c2 c3 c4 s lN = some true
  | 0, b, h, b0, b2, k, hk => by
    obtain ⟨k, rfl⟩ : ∃ j, k = j + 1 := ⟨k - 1, by omega⟩
    rw [w14_DagKinds.l1, if_neg (by omega)]
    have e1 : wrap64 (a + 1) = a + 1 := by unfold wrap64; omega
    rw [e1]
    exact next k (by omega)
  | d + 1, b, h, b0, b2, k, hk => by
    obtain ⟨k, rfl⟩ : ∃ j, k = j + 1 := ⟨k - 1, by omega⟩
    rw [w14_DagKinds.l1]
    by_cases hb : b < 28
    · rw [if_pos hb]
      exact kl2_true (K := K + 60 * (d + 1)) (by omega) a b a0 a1 b0 hb lI c0 c1 c2 c3 c4 s lN (fun k hk => kl1_true hK a a0 a1 lI c0 c1 c2 c3 c4 s lN next d _ (by omega) (by omega) (by omega) k hk) 4 0 (by omega) k (by omega)
    · rw [if_neg hb]
      have e1 : wrap64 (a + 1) = a + 1 := by unfold wrap64; omega
      rw [e1]
      exact next k (by omega)
set_option maxRecDepth 20000 in
theorem kl0_true {K : Nat} (hK : 20000000 ≤ K) (lI : List S24) (c0 c1 c2 c3 c4 : Int) (s : ByteArray) (lN : List Int) : ∀ (d : Nat) (a : Int), 28 ≤ a + d → 1 ≤ a → a ≤ 28 → ∀ k, K + 2000 * (d + 1) ≤ k → w14_DagKinds.l0 k a lI c0 c1 c2 c3 c4 s lN = some true
  | 0, a, h, a0, a2, k, hk => by
    obtain ⟨k, rfl⟩ : ∃ j, k = j + 1 := ⟨k - 1, by omega⟩
    rw [w14_DagKinds.l0, if_neg (by omega), wakes_eq (by omega)]; rfl
  | d + 1, a, h, a0, a2, k, hk => by
    obtain ⟨k, rfl⟩ : ∃ j, k = j + 1 := ⟨k - 1, by omega⟩
    rw [w14_DagKinds.l0]
    by_cases ha : a < 28
    · rw [if_pos ha]
      exact kl1_true (K := K + 2000 * (d + 1)) (by omega) a a0 ha lI c0 c1 c2 c3 c4 s lN (fun k hk => kl0_true hK lI c0 c1 c2 c3 c4 s lN d (a + 1) (by omega) (by omega) (by omega) k hk) 27 1 (by omega) (by omega) (by omega) k (by omega)
    · rw [if_neg ha, wakes_eq (by omega)]; rfl
theorem kinds_true (lI : List S24) (x : S24) (lN : List Int) : w14_DagKinds.f 40000000 lI x.f0 x.f1 x.f2 x.f3 x.f4 x.f5 lN = some true := by
  unfold w14_DagKinds.f
  exact kl0_true (K := 30000000) (by omega) lI x.f0 x.f1 x.f2 x.f3 x.f4 x.f5 lN 27 1 (by omega) (by omega) (by omega) 40000000 (by omega)
theorem kinds_walk : LawWalk 3 := by
  intro A0 c0 lI x A1 c1 lN w g0 b0 g1 b1 hin
  exact w14_DagKinds.calls 40000000 A0 c0 lI x.f0 x.f1 x.f2 x.f3 x.f4 x.f5 A1 c1 lN true w g0 b0 g1 b1 (kinds_true lI x lN)
end Go.Proofs.Ytibfkkjkahpobaa.PDag
