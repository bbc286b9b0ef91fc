-- the texts that this claim needs, out of this session's and its print's (wip/shrink.py)
import Derived.Test.YtibfkkjkahpobaaIsaK
import Derived.Test.YtibfkkjkahpobaaPDagx10K
import Derived.Test.YtibfkkjkahpobaaPDagx13K
import Derived.Test.YtibfkkjkahpobaaPDagx19K
set_option linter.unusedSimpArgs false
set_option linter.unusedVariables false
namespace Go.Proofs.Ytibfkkjkahpobaa.PDag
open Go.RowKit Go.Proofs.YtibfkkjkahpobaaW.PrintWords Go.Proofs.YtibfkkjkahpobaaW.PrintLast Go.Proofs.YtibfkkjkahpobaaW.PrintMore
def okI (x : S24) : Bool := insOk x.f0 x.f1 x.f2 x.f3 x.f4 x.f5
def endsOp (op : Int) : Bool := decide (28 ≤ op) && decide (op ≤ 33)
def plainI (x : S24) : Bool := okI x && (!endsOp x.f0 && (x.f0 != 0))
theorem ins_parts {op d a b imm : Int} {s : ByteArray} (h : insOk op d a b imm s = true) : (0 ≤ op ∧ op ≤ 33) ∧ regOk (hasD (formOf op)) d = true ∧ regOk (hasA (formOf op)) a = true ∧ regOk (hasB (formOf op)) b = true ∧ immOk (formOf op) imm s = true := by
  unfold insOk at h
  simpa [and_assoc] using h
theorem reg_parts {has : Bool} {n : Int} (h : regOk has n = true) : 0 ≤ n ∧ n ≤ 15 ∧ (has = false → n = 0) := by
  unfold regOk at h
  cases has <;> simp at h ⊢ <;> omega
theorem ends_eq (op : Int) : isa_Ends.f op = some (endsOp op) := by
  unfold isa_Ends.f endsOp
  by_cases h : 28 ≤ op <;> simp [h]
theorem plain_eq {k : Nat} (hk : 60 ≤ k) (x : S24) : block_Plain.f k x.f0 x.f1 x.f2 x.f3 x.f4 x.f5 = some (plainI x) := by
  unfold block_Plain.f plainI okI
  rw [isa_ins_eq (by omega)]
  simp only [Option.bind_some, ends_eq]
  cases insOk x.f0 x.f1 x.f2 x.f3 x.f4 x.f5 <;> cases endsOp x.f0 <;> simp
theorem may1_eq {k : Nat} (hk : 60 ≤ k) (x : S24) : dag_May_1.f k x.f0 x.f1 x.f2 x.f3 x.f4 x.f5 = some (!plainI x) := by
  unfold dag_May_1.f
  rw [plain_eq hk]; rfl
def allPlain (l : List S24) : Bool := l.all plainI
def mayL (l : List S24) : Bool := decide (l.length ≤ 200) && allPlain l
theorem rd_at (l : List S24) (i : Nat) (h : i < l.length) : q24 l (i : Int) = l[i] := by
  unfold q24
  rw [Int.toNat_natCast, List.getD_eq_getElem?_getD, List.getElem?_eq_getElem h]; rfl
theorem wrap_at {n : Nat} (h : n ≤ 1000000000000) : wrap64 ((n : Int) + 1) = ((n + 1 : Nat) : Int) := by unfold wrap64; omega
theorem idx_loop (l : List S24) (hl : l.length ≤ 1000000000) : ∀ (d : Nat) (k i : Nat), i + d = l.length → 61 + d ≤ k →
    ∃ r, aI89_114089.l0 k l (l.length : Int) (i : Int) = some r ∧ (decide (r ≥ 0) = !((l.drop i).all plainI))
  | 0, k, i, hi, hk => by
    obtain ⟨k, rfl⟩ : ∃ k', k = k' + 1 := ⟨k - 1, by omega⟩
    refine ⟨-1, ?_, ?_⟩
    · unfold aI89_114089.l0
      rw [if_neg (by omega)]
    · rw [List.drop_of_length_le (by omega)]; simp
  | d + 1, k, i, hi, hk => by
    obtain ⟨k, rfl⟩ : ∃ k', k = k' + 1 := ⟨k - 1, by omega⟩
    have hlt : i < l.length := by omega
    unfold aI89_114089.l0
    rw [if_pos (by omega), if_pos (by omega), if_pos (by omega), may1_eq (by omega), wrap_at (by omega), rd_at l i hlt, List.drop_eq_getElem_cons hlt]
    simp only [Option.bind_some, List.all_cons]
    cases hp : plainI l[i] with
    | false => exact ⟨_, rfl, by simp⟩
    | true =>
      simp only [Bool.not_true, Bool.false_eq_true, if_false, Bool.true_and]
      exact idx_loop l hl d k (i + 1) (by omega) (by omega)
theorem may_eq {k : Nat} (l : List S24) (hl : l.length ≤ 1000000000) (hk : 300 ≤ k) : dag_May.f k l = some (mayL l) := by
  unfold dag_May.f mayL
  by_cases h : l.length ≤ 200
  · rw [if_pos (by omega)]
    unfold aI89_88089.f aI89_114089.f
    obtain ⟨r, h1, h2⟩ := idx_loop l hl l.length k 0 (by omega) (by omega)
    rw [show ((0 : Nat) : Int) = 0 from rfl] at h1
    rw [h1]
    simp only [Option.bind_some, h2, List.drop_zero]
    unfold allPlain
    simp [h]
  · rw [if_neg (by omega)]; simp [h]
def effOp (op : Int) : Bool := op == 16 || (op == 17 || ((decide (24 ≤ op) && decide (op ≤ 27)) || (decide (31 ≤ op) && decide (op ≤ 33))))
def lateOp (op : Int) : Int := if op = 14 ∨ op = 15 ∨ op = 26 then 2 else if op = 20 ∨ op = 24 then 3 else if op = 16 ∨ op = 17 then 4 else 1
theorem eff_eq {k : Nat} (hk : 5 ≤ k) (op : Int) (h0 : 0 ≤ op) (h1 : op ≤ 33) : isa_Effect.f k op = some (effOp op) :=
  at_rounds (isa_Effect.mono op) hk (upto34 (p := fun op => isa_Effect.f 5 op = some (effOp op)) (by decide) op h0 h1)
theorem reff_eq (op : Int) (h0 : 0 ≤ op) (h1 : op ≤ 33) : r3_Effect.f op = some (effOp op) :=
  upto34 (p := fun op => r3_Effect.f op = some (effOp op)) (by decide) op h0 h1
theorem late_eq {k : Nat} (hk : 5 ≤ k) (op : Int) (h0 : 0 ≤ op) (h1 : op ≤ 33) : isa_Late.f k op = some (lateOp op) :=
  at_rounds (isa_Late.mono op) hk (upto34 (p := fun op => isa_Late.f 5 op = some (lateOp op)) (by decide) op h0 h1)
theorem rlate_eq {k : Nat} (hk : 5 ≤ k) (op : Int) (h0 : 0 ≤ op) (h1 : op ≤ 33) : r3_Latency.f k op = some (lateOp op) :=
  at_rounds (r3_Latency.mono op) hk (upto34 (p := fun op => r3_Latency.f 5 op = some (lateOp op)) (by decide) op h0 h1)
def readsL (x : S24) : List Int := (if hasA (formOf x.f0) = true then [x.f2] else []) ++ (if hasB (formOf x.f0) = true then [x.f3] else [])
theorem readsL_len (x : S24) : (readsL x).length ≤ 2 := by
  unfold readsL
  cases hasA (formOf x.f0) <;> cases hasB (formOf x.f0) <;> simp
theorem read_eq {k : Nat} (hk : 12 ≤ k) (x : S24) (h0 : 0 ≤ x.f0) (h1 : x.f0 ≤ 33) : isa_Read.f k x.f0 x.f1 x.f2 x.f3 x.f4 x.f5 = some (readsL x) := by
  obtain ⟨k, rfl⟩ : ∃ k', k = k' + 1 := ⟨k - 1, by omega⟩
  obtain ⟨f0, f1⟩ := formOf_range x.f0 h0 h1
  unfold isa_Read.f readsL
  rw [shape_eq (by omega) _ h0 h1]
  simp only [Option.bind_some]
  rw [isa_hasA (by omega) _ f0 f1]
  simp only [Option.bind_some]
  unfold isa_Read.j0
  simp only [isa_hasB _ f0 f1, Option.bind_some]
  cases hasA (formOf x.f0) <;> cases hasB (formOf x.f0) <;> simp
theorem rreads_eq {k : Nat} (hk : 12 ≤ k) (x : S24) (h0 : 0 ≤ x.f0) (h1 : x.f0 ≤ 33) : r3_Reads.f k x.f0 x.f1 x.f2 x.f3 x.f4 x.f5 = some (readsL x) := by
  obtain ⟨k, rfl⟩ : ∃ k', k = k' + 1 := ⟨k - 1, by omega⟩
  obtain ⟨f0, f1⟩ := formOf_range x.f0 h0 h1
  unfold r3_Reads.f readsL
  rw [form_eq _ h0 h1]
  simp only [Option.bind_some, ref_hasA _ f0 f1]
  unfold r3_Reads.j0
  simp only [ref_hasB _ f0 f1, Option.bind_some]
  cases hasA (formOf x.f0) <;> cases hasB (formOf x.f0) <;> simp
def rdsP (x y : S24) : Bool := hasD (formOf y.f0) && (readsL x).any (fun r => y.f1 == r)
theorem writes_eq {k : Nat} (hk : 12 ≤ k) (y : S24) (r : Int) (h0 : 0 ≤ y.f0) (h1 : y.f0 ≤ 33) : dag_writes.f k y.f0 y.f1 y.f2 y.f3 y.f4 y.f5 r = some (hasD (formOf y.f0) && y.f1 == r) := by
  obtain ⟨f0, f1⟩ := formOf_range y.f0 h0 h1
  unfold dag_writes.f
  rw [shape_eq (by omega) _ h0 h1]
  simp only [Option.bind_some, isa_hasD _ f0 f1]
  cases hasD (formOf y.f0) <;> simp
theorem reads1_eq {k : Nat} (hk : 12 ≤ k) (y : S24) (r : Int) (h0 : 0 ≤ y.f0) (h1 : y.f0 ≤ 33) : dag_reads_1.f k r y.f0 y.f1 y.f2 y.f3 y.f4 y.f5 = some (hasD (formOf y.f0) && y.f1 == r, y.f0, y.f1, y.f2, y.f3, y.f4, y.f5) := by
  unfold dag_reads_1.f
  rw [writes_eq hk y r h0 h1]; rfl
theorem index_loop (rs : List Int) (hl : rs.length ≤ 1000) (y : S24) (h0 : 0 ≤ y.f0) (h1 : y.f0 ≤ 33) : ∀ (d : Nat) (k i : Nat), i + d = rs.length → 13 + d ≤ k →
    ∃ r, sI_121.l0 k rs (rs.length : Int) (i : Int) y.f0 y.f1 y.f2 y.f3 y.f4 y.f5 = some (r, y.f0, y.f1, y.f2, y.f3, y.f4, y.f5) ∧ (decide (r ≥ 0) = (hasD (formOf y.f0) && (rs.drop i).any (fun r => y.f1 == r)))
  | 0, k, i, hi, hk => by
    obtain ⟨k, rfl⟩ : ∃ k', k = k' + 1 := ⟨k - 1, by omega⟩
    refine ⟨-1, ?_, ?_⟩
    · unfold sI_121.l0
      rw [if_neg (by omega)]
    · rw [List.drop_of_length_le (by omega)]; simp
  | d + 1, k, i, hi, hk => by
    obtain ⟨k, rfl⟩ : ∃ k', k = k' + 1 := ⟨k - 1, by omega⟩
    have hlt : i < rs.length := by omega
    have hr : rd rs (i : Int) = rs[i] := by
      unfold rd
      rw [Int.toNat_natCast, List.getD_eq_getElem?_getD, List.getElem?_eq_getElem hlt]; rfl
    unfold sI_121.l0
    rw [if_pos (by omega), if_pos (by omega), if_pos (by omega), reads1_eq (by omega) y _ h0 h1, wrap_at (by omega), hr, List.drop_eq_getElem_cons hlt]
    simp only [Option.bind_some, List.any_cons]
    obtain ⟨r, h2, h3⟩ := index_loop rs hl y h0 h1 d k (i + 1) (by omega) (by omega)
    cases hd : hasD (formOf y.f0) with
    | false =>
      rw [hd] at h3
      simp only [Bool.false_and, Bool.false_eq_true, if_false]
      exact ⟨r, h2, by simpa using h3⟩
    | true =>
      rw [hd] at h3
      cases hp : (y.f1 == rs[i]) with
      | false =>
        simp only [Bool.and_false, Bool.false_eq_true, if_false, Bool.true_and, Bool.false_or]
        exact ⟨r, h2, by simpa using h3⟩
      | true => exact ⟨(i : Int), by simp, by simp⟩
theorem reads_eq {k : Nat} (hk : 30 ≤ k) (x y : S24) (hx : 0 ≤ x.f0 ∧ x.f0 ≤ 33) (hy : 0 ≤ y.f0 ∧ y.f0 ≤ 33) : dag_reads.f k x.f0 x.f1 x.f2 x.f3 x.f4 x.f5 y.f0 y.f1 y.f2 y.f3 y.f4 y.f5 = some (rdsP x y) := by
  unfold dag_reads.f rdsP
  rw [read_eq (by omega) x hx.1 hx.2]
  simp only [Option.bind_some]
  unfold sC_121.f sI_121.f
  obtain ⟨r, h1, h2⟩ := index_loop (readsL x) (by have := readsL_len x; omega) y hy.1 hy.2 (readsL x).length k 0 (by omega) (by have := readsL_len x; omega)
  rw [show ((0 : Nat) : Int) = 0 from rfl] at h1
  rw [h1]
  simp only [Option.bind_some, List.drop_zero] at h2 ⊢
  rw [h2]
theorem in_loop (rs : List Int) (hl : rs.length ≤ 1000) (v : Int) : ∀ (d : Nat) (k i : Nat), i + d = rs.length → 1 + d ≤ k →
    ∃ r, r0_In.l0 k rs v (i : Int) = some r ∧ (decide (r ≥ 0) = (rs.drop i).any (fun r => v == r))
  | 0, k, i, hi, hk => by
    obtain ⟨k, rfl⟩ : ∃ k', k = k' + 1 := ⟨k - 1, by omega⟩
    refine ⟨-1, ?_, ?_⟩
    · unfold r0_In.l0
      rw [if_neg (by omega)]
    · rw [List.drop_of_length_le (by omega)]; simp
  | d + 1, k, i, hi, hk => by
    obtain ⟨k, rfl⟩ : ∃ k', k = k' + 1 := ⟨k - 1, by omega⟩
    have hlt : i < rs.length := by omega
    have hr : rd rs (i : Int) = rs[i] := by
      unfold rd
      rw [Int.toNat_natCast, List.getD_eq_getElem?_getD, List.getElem?_eq_getElem hlt]; rfl
    unfold r0_In.l0
    rw [if_pos (by omega), if_pos (by omega), wrap_at (by omega), hr, List.drop_eq_getElem_cons hlt]
    simp only [List.any_cons]
    by_cases hp : rs[i] = v
    · rw [if_pos hp]; exact ⟨_, rfl, by simp [hp]⟩
    · rw [if_neg hp]
      obtain ⟨r, h2, h3⟩ := in_loop rs hl v d k (i + 1) (by omega) (by omega)
      refine ⟨r, h2, ?_⟩
      rw [h3, show (v == rs[i]) = false from by simpa using fun e => hp e.symm]; rfl
theorem in_eq {k : Nat} (hk : 5 ≤ k) (x : S24) (v : Int) : ∃ r, r0_In.f k (readsL x) v = some r ∧ (decide (r ≥ 0) = (readsL x).any (fun r => v == r)) := by
  unfold r0_In.f
  have := in_loop (readsL x) (by have := readsL_len x; omega) v (readsL x).length k 0 (by omega) (by have := readsL_len x; omega)
  simpa using this
def dist (x y : S24) : Int :=
  let d := if effOp x.f0 = true ∧ effOp y.f0 = true then 1 else if rdsP x y = true then 0 else -1
  if rdsP y x = true ∨ (hasD (formOf y.f0) = true ∧ hasD (formOf x.f0) = true ∧ x.f1 = y.f1) then mx d (lateOp x.f0) else d
theorem dist_eq {k : Nat} (hk : 40 ≤ k) (x y : S24) (hx : 0 ≤ x.f0 ∧ x.f0 ≤ 33) (hy : 0 ≤ y.f0 ∧ y.f0 ≤ 33) : dag_dist.f k x.f0 x.f1 x.f2 x.f3 x.f4 x.f5 y.f0 y.f1 y.f2 y.f3 y.f4 y.f5 = some (dist x y) := by
  obtain ⟨k, rfl⟩ : ∃ k', k = k' + 4 := ⟨k - 4, by omega⟩
  obtain ⟨f0, f1⟩ := formOf_range y.f0 hy.1 hy.2
  unfold dag_dist.f dag_dist.j0 dag_dist.j1 dag_dist.j2 dag_dist.j3
  rw [reads_eq (by omega) x y hx hy]
  simp only [Option.bind_some]
  rw [eff_eq (by omega) _ hx.1 hx.2, eff_eq (by omega) _ hy.1 hy.2, reads_eq (by omega) y x hy hx, shape_eq (by omega) _ hy.1 hy.2]
  simp only [Option.bind_some, isa_hasD _ f0 f1]
  rw [writes_eq (by omega) x _ hx.1 hx.2, late_eq (by omega) _ hx.1 hx.2]
  unfold dist
  cases rdsP x y <;> cases effOp x.f0 <;> cases effOp y.f0 <;> cases rdsP y x <;> cases hasD (formOf y.f0) <;> cases hasD (formOf x.f0) <;> by_cases h : x.f1 = y.f1 <;> simp [h]
def wOf (x : S24) : Int := if hasD (formOf x.f0) = true then x.f1 else -1
theorem rwrites_eq (x : S24) (h0 : 0 ≤ x.f0) (h1 : x.f0 ≤ 33) : r3_Writes.f x.f0 x.f1 x.f2 x.f3 x.f4 x.f5 = some (wOf x) := by
  obtain ⟨f0, f1⟩ := formOf_range x.f0 h0 h1
  unfold r3_Writes.f wOf
  rw [form_eq _ h0 h1]
  simp only [Option.bind_some, ref_hasD _ f0 f1]
  cases hasD (formOf x.f0) <;> simp
theorem okI_op {x : S24} (h : okI x = true) : 0 ≤ x.f0 ∧ x.f0 ≤ 33 := (ins_parts h).1
theorem okI_d {x : S24} (h : okI x = true) : 0 ≤ x.f1 := (reg_parts (ins_parts h).2.1).1
theorem rdist_eq {k : Nat} (hk : 40 ≤ k) (x y : S24) (hx : okI x = true) (hy : okI y = true) : r13_dist.f k x.f0 x.f1 x.f2 x.f3 x.f4 x.f5 y.f0 y.f1 y.f2 y.f3 y.f4 y.f5 = some (dist x y) := by
  obtain ⟨k, rfl⟩ : ∃ k', k = k' + 5 := ⟨k - 5, by omega⟩
  obtain ⟨x0, x1⟩ := okI_op hx
  obtain ⟨y0, y1⟩ := okI_op hy
  have dx := okI_d hx
  have dy := okI_d hy
  unfold r13_dist.f r13_dist.j0 r13_dist.j1 r13_dist.j2 r13_dist.j3 r13_dist.j4
  rw [rwrites_eq x x0 x1, rwrites_eq y y0 y1]
  simp only [Option.bind_some]
  rw [rreads_eq (by omega) x x0 x1, rreads_eq (by omega) y y0 y1, reff_eq _ x0 x1, reff_eq _ y0 y1, rlate_eq (by omega) _ x0 x1]
  simp only [Option.bind_some]
  obtain ⟨r1, e1, q1⟩ := in_eq (show 5 ≤ k + 5 by omega) x (wOf y)
  obtain ⟨r2, e2, q2⟩ := in_eq (show 5 ≤ k + 1 by omega) y (wOf x)
  rw [e1, e2]
  simp only [Option.bind_some, q1, q2]
  unfold dist rdsP wOf
  cases hdx : hasD (formOf x.f0) <;> cases hdy : hasD (formOf y.f0) <;> cases effOp x.f0 <;> cases effOp y.f0 <;> by_cases h : x.f1 = y.f1 <;>
    simp [h, dx, dy] <;> (first | done | (rw [if_neg (by omega)]; done) | skip) <;> (try split) <;> (try split) <;> simp_all
def edgesSeg (l : List S24) (i : Nat) : Nat → Nat → List S51
  | _, 0 => []
  | j, d + 1 => (if 0 ≤ dist (q24 l i) (q24 l j) then [(⟨(i : Int), (j : Int), dist (q24 l i) (q24 l j)⟩ : S51)] else []) ++ edgesSeg l i (j + 1) d
def edgesFrom (l : List S24) (i : Nat) : List S51 := edgesSeg l i (i + 1) (l.length - (i + 1))
def edgesUp (l : List S24) : Nat → Nat → List S51
  | _, 0 => []
  | i, d + 1 => edgesFrom l i ++ edgesUp l (i + 1) d
theorem edgesUp_succ (l : List S24) (i d : Nat) : edgesUp l i (d + 1) = edgesFrom l i ++ edgesUp l (i + 1) d := rfl
def edges (l : List S24) : List S51 := edgesUp l 0 l.length
theorem edgesSeg_len (l : List S24) (i : Nat) : ∀ (d j : Nat), (edgesSeg l i j d).length ≤ d
  | 0, _ => by simp [edgesSeg]
  | d + 1, j => by
    have := edgesSeg_len l i d (j + 1)
    unfold edgesSeg
    split <;> simp <;> omega
def okL (l : List S24) : Prop := ∀ i : Nat, i < l.length → okI (q24 l i) = true
theorem ref_l1 (l : List S24) (hl : l.length ≤ 1000) (ho : okL l) (i : Nat) (hi : i < l.length) : ∀ (d k : Nat) (acc : List S51) (j : Nat), 50 ≤ k → j + d = l.length → i < j → acc.length + d ≤ 1000000000 →
    r13_Edges.l1 (k + d + 1) l acc (i : Int) (j : Int) = r13_Edges.l0 k l (acc ++ edgesSeg l i j d) ((i + 1 : Nat) : Int)
  | 0, k, acc, j, hk, hj, hij, hb => by
    unfold r13_Edges.l1
    rw [if_neg (by omega), wrap_at (by omega)]
    simp [edgesSeg]
  | d + 1, k, acc, j, hk, hj, hij, hb => by
    have hlt : j < l.length := by omega
    rw [show k + (d + 1) + 1 = (k + d + 1) + 1 by omega]
    unfold r13_Edges.l1
    rw [if_pos (by omega), if_pos (by omega), if_pos (by omega), if_pos (by omega), rdist_eq (by omega) _ _ (ho i hi) (ho j hlt), wrap_at (by omega)]
    simp only [Option.bind_some]
    unfold edgesSeg
    by_cases h : 0 ≤ dist (q24 l i) (q24 l j)
    · rw [if_pos h, if_pos (by omega), if_pos h, ref_l1 l hl ho i hi d k _ (j + 1) hk (by omega) (by omega) (by simp; omega)]
      simp
    · rw [if_neg h, if_neg h, ref_l1 l hl ho i hi d k _ (j + 1) hk (by omega) (by omega) (by omega)]
      simp
theorem ref_l0 (l : List S24) (hl : l.length ≤ 1000) (ho : okL l) : ∀ (d k : Nat) (acc : List S51) (i : Nat), i + d = l.length → 60 + d * (l.length + 2) ≤ k → acc.length + d * l.length ≤ 100000000 →
    r13_Edges.l0 k l acc (i : Int) = some (acc ++ edgesUp l i d)
  | 0, k, acc, i, hi, hk, hb => by
    obtain ⟨k, rfl⟩ : ∃ k', k = k' + 1 := ⟨k - 1, by omega⟩
    unfold r13_Edges.l0
    rw [if_neg (by omega)]
    simp [edgesUp]
  | d + 1, k, acc, i, hi, hk, hb => by
    have e1 : (d + 1) * (l.length + 2) = d * (l.length + 2) + (l.length + 2) := Nat.succ_mul _ _
    have e2 : (d + 1) * l.length = d * l.length + l.length := Nat.succ_mul _ _
    obtain ⟨k, rfl⟩ : ∃ k', k = (k' + (l.length - (i + 1)) + 1) + 1 := ⟨k - (l.length - (i + 1)) - 2, by omega⟩
    unfold r13_Edges.l0
    rw [if_pos (by omega), wrap_at (by omega), ref_l1 l hl ho i (by omega) (l.length - (i + 1)) k acc (i + 1) (by omega) (by omega) (by omega) (by omega)]
    have h3 := edgesSeg_len l i (l.length - (i + 1)) (i + 1)
    rw [ref_l0 l hl ho d k _ (i + 1) (by omega) (by omega) (by simp; omega)]
    rw [edgesUp_succ]
    unfold edgesFrom
    simp
theorem ref_edges {k : Nat} (l : List S24) (hl : l.length ≤ 200) (ho : okL l) (hk : 50000 ≤ k) : r13_Edges.f k l = some (edges l) := by
  have hm : l.length * (l.length + 2) ≤ 200 * 202 := Nat.mul_le_mul hl (by omega)
  have hm2 : l.length * l.length ≤ 200 * 200 := Nat.mul_le_mul hl hl
  unfold r13_Edges.f edges
  rw [show (0 : Int) = ((0 : Nat) : Int) from rfl, ref_l0 l (by omega) ho l.length k [] 0 (by omega) (by omega) (by simp; omega)]
  simp
theorem rd_drop (l : List S24) (i j : Nat) (h : i + j < l.length) : q24 (l.drop i) (j : Int) = q24 l ((i + j : Nat) : Int) := by
  rw [rd_at _ _ (by simp; omega), rd_at _ _ h]
  simp
theorem own_l1 (l : List S24) (hl : l.length ≤ 1000) (ho : okL l) (i : Nat) (hi : i < l.length) : ∀ (d k : Nat) (acc : List S51) (j : Nat), 50 ≤ k → i + 1 + j + d = l.length → acc.length + d ≤ 1000000000 →
    dag_Edges.l1 (k + d + 1) l acc (i : Int) l (l.length : Int) (i : Int) (l.drop (i + 1)) ((l.drop (i + 1)).length : Int) (j : Int) (q24 l i).f0 (q24 l i).f1 (q24 l i).f2 (q24 l i).f3 (q24 l i).f4 (q24 l i).f5 = dag_Edges.l0 k l (acc ++ edgesSeg l i (i + 1 + j) d) l (l.length : Int) ((i + 1 : Nat) : Int)
  | 0, k, acc, j, hk, hj, hb => by
    unfold dag_Edges.l1
    rw [if_neg (by rw [List.length_drop]; omega), wrap_at (by omega)]
    simp [edgesSeg]
  | d + 1, k, acc, j, hk, hj, hb => by
    have hlt : i + 1 + j < l.length := by omega
    rw [show k + (d + 1) + 1 = (k + d + 1) + 1 by omega]
    unfold dag_Edges.l1
    rw [if_pos (by rw [List.length_drop]; omega), if_pos (by omega), if_pos (by rw [List.length_drop]; omega), rd_drop l (i + 1) j (by omega), dist_eq (by omega) _ _ (okI_op (ho i hi)) (okI_op (ho _ hlt)), wrap_at (n := j) (by omega), wrap_at (n := i) (by omega)]
    simp only [Option.bind_some]
    have e1 : wrap64 (((i + 1 : Nat) : Int) + (j : Int)) = ((i + 1 + j : Nat) : Int) := by unfold wrap64; omega
    rw [e1]
    unfold edgesSeg
    by_cases h : 0 ≤ dist (q24 l i) (q24 l ((i + 1 + j : Nat) : Int))
    · rw [if_pos h, if_pos (by omega), if_pos h, own_l1 l hl ho i hi d k _ (j + 1) hk (by omega) (by simp; omega)]
      simp [Nat.add_assoc]
    · rw [if_neg h, if_neg h, own_l1 l hl ho i hi d k _ (j + 1) hk (by omega) (by omega)]
      simp [Nat.add_assoc]
theorem own_l0 (l : List S24) (hl : l.length ≤ 1000) (ho : okL l) : ∀ (d k : Nat) (acc : List S51) (i : Nat), i + d = l.length → 60 + d * (l.length + 2) ≤ k → acc.length + d * l.length ≤ 100000000 →
    dag_Edges.l0 k l acc l (l.length : Int) (i : Int) = some (acc ++ edgesUp l i d)
  | 0, k, acc, i, hi, hk, hb => by
    obtain ⟨k, rfl⟩ : ∃ k', k = k' + 1 := ⟨k - 1, by omega⟩
    unfold dag_Edges.l0
    rw [if_neg (by omega)]
    simp [edgesUp]
  | d + 1, k, acc, i, hi, hk, hb => by
    have e1 : (d + 1) * (l.length + 2) = d * (l.length + 2) + (l.length + 2) := Nat.succ_mul _ _
    have e2 : (d + 1) * l.length = d * l.length + l.length := Nat.succ_mul _ _
    obtain ⟨k, rfl⟩ : ∃ k', k = (k' + (l.length - (i + 1)) + 1) + 1 := ⟨k - (l.length - (i + 1)) - 2, by omega⟩
    unfold dag_Edges.l0
    rw [if_pos (by omega), if_pos (by omega), if_pos (by omega), wrap_at (by omega), if_pos (by omega), if_pos (by omega)]
    simp only [Option.bind_some, Int.toNat_natCast]
    have h4 := own_l1 l hl ho i (by omega) (l.length - (i + 1)) k acc 0 (by omega) (by omega) (by omega)
    rw [show ((0 : Nat) : Int) = 0 from rfl] at h4
    rw [h4]
    have h3 := edgesSeg_len l i (l.length - (i + 1)) (i + 1)
    rw [own_l0 l hl ho d k _ (i + 1) (by omega) (by omega) (by simp; omega)]
    rw [edgesUp_succ]
    unfold edgesFrom
    simp
theorem own_edges {k : Nat} (l : List S24) (hl : l.length ≤ 200) (ho : okL l) (hk : 50000 ≤ k) : dag_Edges.f k l = some (edges l) := by
  have hm : l.length * (l.length + 2) ≤ 200 * 202 := Nat.mul_le_mul hl (by omega)
  have hm2 : l.length * l.length ≤ 200 * 200 := Nat.mul_le_mul hl hl
  unfold dag_Edges.f edges
  rw [show (0 : Int) = ((0 : Nat) : Int) from rfl, own_l0 l (by omega) ho l.length k [] 0 (by omega) (by omega) (by simp; omega)]
  simp
end Go.Proofs.Ytibfkkjkahpobaa.PDag
