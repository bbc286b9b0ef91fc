import Derived.Test.YtibfkkjkahpobaaMx23
import Derived.Test.YtibfkkjkahpobaaMx21
import Derived.Test.YtibfkkjkahpobaaMx25
import Derived.Test.YtibfkkjkahpobaaMx15
import Derived.Test.YtibfkkjkahpobaaMx18
import Derived.Test.YtibfkkjkahpobaaMx17
set_option linter.unusedVariables false
set_option linter.unusedSimpArgs false
set_option maxHeartbeats 8000000
set_option maxRecDepth 100000
open Go.RowKit Go.Proofs.YtibfkkjkahpobaaW.PrintWords Go.Proofs.YtibfkkjkahpobaaW.PrintLast Go.Proofs.YtibfkkjkahpobaaW.PrintMore
namespace Go.Proofs.Ytibfkkjkahpobaa.PDag
section
def okI (x : S24) : Bool := insOk x.f0 x.f1 x.f2 x.f3 x.f4 x.f5
def endsOp (op : Int) : Bool := decide (28 ≤ op) && decide (op ≤ 33)
def plainI (x : S24) : Bool := okI x && (!endsOp x.f0 && (x.f0 != 0))
theorem ins_parts {op d a b imm : Int} {s : ByteArray} (h : insOk op d a b imm s = true) : (0 ≤ op ∧ op ≤ 33) ∧ regOk (hasD (formOf op)) d = true ∧ regOk (hasA (formOf op)) a = true ∧ regOk (hasB (formOf op)) b = true ∧ immOk (formOf op) imm s = true := by
  unfold insOk at h
  simpa [and_assoc] using h
theorem reg_parts {has : Bool} {n : Int} (h : regOk has n = true) : 0 ≤ n ∧ n ≤ 15 ∧ (has = false → n = 0) := by
  unfold regOk at h
  cases has <;> simp at h ⊢ <;> omega
theorem ends_eq (op : Int) : isa_Ends.f op = some (endsOp op) := by
  unfold isa_Ends.f endsOp
  by_cases h : 28 ≤ op <;> simp [h]
theorem rends_eq (op : Int) : r3_Ends.f op = some (endsOp op) := by
  unfold r3_Ends.f r0_Between.f endsOp
  by_cases h : 28 ≤ op <;> simp [h]
theorem plain_eq {k : Nat} (hk : 60 ≤ k) (x : S24) : block_Plain.f k x.f0 x.f1 x.f2 x.f3 x.f4 x.f5 = some (plainI x) := by
  unfold block_Plain.f plainI okI
  rw [isa_ins_eq (by omega)]
  simp only [Option.bind_some, ends_eq]
  cases insOk x.f0 x.f1 x.f2 x.f3 x.f4 x.f5 <;> cases endsOp x.f0 <;> simp
theorem may1_eq {k : Nat} (hk : 60 ≤ k) (x : S24) : dag_May_1.f k x.f0 x.f1 x.f2 x.f3 x.f4 x.f5 = some (!plainI x) := by
  unfold dag_May_1.f
  rw [plain_eq hk]; rfl
def allPlain (l : List S24) : Bool := l.all plainI
def mayL (l : List S24) : Bool := decide (l.length ≤ 200) && allPlain l
theorem rd_at (l : List S24) (i : Nat) (h : i < l.length) : q24 l (i : Int) = l[i] := by
  unfold q24
  rw [Int.toNat_natCast, List.getD_eq_getElem?_getD, List.getElem?_eq_getElem h]; rfl
theorem wrap_at {n : Nat} (h : n ≤ 1000000000000) : wrap64 ((n : Int) + 1) = ((n + 1 : Nat) : Int) := by unfold wrap64; omega
theorem idx_loop (l : List S24) (hl : l.length ≤ 1000000000) : ∀ (d : Nat) (k i : Nat), i + d = l.length → 61 + d ≤ k →
    ∃ r, aI89_114089.l0 k l (l.length : Int) (i : Int) = some r ∧ (decide (r ≥ 0) = !((l.drop i).all plainI))
  | 0, k, i, hi, hk => by
    obtain ⟨k, rfl⟩ : ∃ k', k = k' + 1 := ⟨k - 1, by omega⟩
    refine ⟨-1, ?_, ?_⟩
    · unfold aI89_114089.l0
      rw [if_neg (by omega)]
    · rw [List.drop_of_length_le (by omega)]; simp
  | d + 1, k, i, hi, hk => by
    obtain ⟨k, rfl⟩ : ∃ k', k = k' + 1 := ⟨k - 1, by omega⟩
    have hlt : i < l.length := by omega
    unfold aI89_114089.l0
    rw [if_pos (by omega), if_pos (by omega), if_pos (by omega), may1_eq (by omega), wrap_at (by omega), rd_at l i hlt, List.drop_eq_getElem_cons hlt]
    simp only [Option.bind_some, List.all_cons]
    cases hp : plainI l[i] with
    | false => exact ⟨_, rfl, by simp⟩
    | true =>
      simp only [Bool.not_true, Bool.false_eq_true, if_false, Bool.true_and]
      exact idx_loop l hl d k (i + 1) (by omega) (by omega)
theorem may_eq {k : Nat} (l : List S24) (hl : l.length ≤ 1000000000) (hk : 300 ≤ k) : dag_May.f k l = some (mayL l) := by
  unfold dag_May.f mayL
  by_cases h : l.length ≤ 200
  · rw [if_pos (by omega)]
    unfold aI89_88089.f aI89_114089.f
    obtain ⟨r, h1, h2⟩ := idx_loop l hl l.length k 0 (by omega) (by omega)
    rw [show ((0 : Nat) : Int) = 0 from rfl] at h1
    rw [h1]
    simp only [Option.bind_some, h2, List.drop_zero]
    unfold allPlain
    simp [h]
  · rw [if_neg (by omega)]; simp [h]
theorem straight_loop (l : List S24) (hl : l.length ≤ 1000000000) : ∀ (d : Nat) (k i : Nat), i + d = min l.length 201 → 70 + 3 * d ≤ k →
    r13_Straight.l0 k l (i : Int) = some (decide (l.length ≤ 200) && ((l.take 201).drop i).all plainI)
  | 0, k, i, hi, hk => by
    obtain ⟨k, rfl⟩ : ∃ k', k = k' + 2 := ⟨k - 2, by omega⟩
    rw [List.drop_of_length_le (by simp; omega)]
    unfold r13_Straight.l0
    by_cases h : (i : Int) < (l.length : Int)
    · rw [if_pos h, show decide ((i : Int) ≤ 200) = false from decide_eq_false (by omega)]
      unfold r13_Straight.j1
      simp; omega
    · rw [if_neg h]
      unfold r13_Straight.j1
      simp; omega
  | d + 1, k, i, hi, hk => by
    obtain ⟨k, rfl⟩ : ∃ k', k = k' + 3 := ⟨k - 3, by omega⟩
    have hlt : i < l.length := by omega
    have hlt2 : i < (l.take 201).length := by simp; omega
    unfold r13_Straight.l0
    rw [if_pos (by omega), show decide ((i : Int) ≤ 200) = true from decide_eq_true (by omega)]
    unfold r13_Straight.j1
    rw [if_pos rfl, if_pos (by omega), if_pos (by omega), ref_ins_eq (by omega), rd_at l i hlt, List.drop_eq_getElem_cons hlt2]
    simp only [Option.bind_some, List.all_cons, List.getElem_take, rends_eq]
    have ih := straight_loop l hl d k (i + 1) (by omega) (by omega)
    unfold r13_Straight.j2
    rw [wrap_at (by omega), ih]
    unfold plainI okI
    cases h1 : insOk l[i].f0 l[i].f1 l[i].f2 l[i].f3 l[i].f4 l[i].f5
    · simp
    · by_cases h2 : l[i].f0 = 0
      · simp [h2]
      · have h4 : (l[i].f0 != 0) = true := by simp [h2]
        cases h3 : endsOp l[i].f0 <;> simp [h2, h3, h4]
theorem straight_eq {k : Nat} (l : List S24) (hl : l.length ≤ 1000000000) (hk : 700 ≤ k) : r13_Straight.f k l = some (mayL l) := by
  unfold r13_Straight.f mayL allPlain
  rw [show (0 : Int) = ((0 : Nat) : Int) from rfl, straight_loop l hl (min l.length 201) k 0 (by omega) (by omega)]
  by_cases h : l.length ≤ 200
  · rw [List.take_of_length_le (by omega), List.drop_zero]
  · simp [h]
def effOp (op : Int) : Bool := op == 16 || (op == 17 || ((decide (24 ≤ op) && decide (op ≤ 27)) || (decide (31 ≤ op) && decide (op ≤ 33))))
def lateOp (op : Int) : Int := if op = 14 ∨ op = 15 ∨ op = 26 then 2 else if op = 20 ∨ op = 24 then 3 else if op = 16 ∨ op = 17 then 4 else 1
theorem eff_eq {k : Nat} (hk : 5 ≤ k) (op : Int) (h0 : 0 ≤ op) (h1 : op ≤ 33) : isa_Effect.f k op = some (effOp op) :=
  at_rounds (isa_Effect.mono op) hk (upto34 (p := fun op => isa_Effect.f 5 op = some (effOp op)) (by decide) op h0 h1)
theorem reff_eq (op : Int) (h0 : 0 ≤ op) (h1 : op ≤ 33) : r3_Effect.f op = some (effOp op) :=
  upto34 (p := fun op => r3_Effect.f op = some (effOp op)) (by decide) op h0 h1
theorem late_eq {k : Nat} (hk : 5 ≤ k) (op : Int) (h0 : 0 ≤ op) (h1 : op ≤ 33) : isa_Late.f k op = some (lateOp op) :=
  at_rounds (isa_Late.mono op) hk (upto34 (p := fun op => isa_Late.f 5 op = some (lateOp op)) (by decide) op h0 h1)
theorem rlate_eq {k : Nat} (hk : 5 ≤ k) (op : Int) (h0 : 0 ≤ op) (h1 : op ≤ 33) : r3_Latency.f k op = some (lateOp op) :=
  at_rounds (r3_Latency.mono op) hk (upto34 (p := fun op => r3_Latency.f 5 op = some (lateOp op)) (by decide) op h0 h1)
def readsL (x : S24) : List Int := (if hasA (formOf x.f0) = true then [x.f2] else []) ++ (if hasB (formOf x.f0) = true then [x.f3] else [])
theorem readsL_len (x : S24) : (readsL x).length ≤ 2 := by
  unfold readsL
  cases hasA (formOf x.f0) <;> cases hasB (formOf x.f0) <;> simp
theorem read_eq {k : Nat} (hk : 12 ≤ k) (x : S24) (h0 : 0 ≤ x.f0) (h1 : x.f0 ≤ 33) : isa_Read.f k x.f0 x.f1 x.f2 x.f3 x.f4 x.f5 = some (readsL x) := by
  obtain ⟨k, rfl⟩ : ∃ k', k = k' + 1 := ⟨k - 1, by omega⟩
  obtain ⟨f0, f1⟩ := formOf_range x.f0 h0 h1
  unfold isa_Read.f readsL
  rw [shape_eq (by omega) _ h0 h1]
  simp only [Option.bind_some]
  rw [isa_hasA (by omega) _ f0 f1]
  simp only [Option.bind_some]
  unfold isa_Read.j0
  simp only [isa_hasB _ f0 f1, Option.bind_some]
  cases hasA (formOf x.f0) <;> cases hasB (formOf x.f0) <;> simp
theorem rreads_eq {k : Nat} (hk : 12 ≤ k) (x : S24) (h0 : 0 ≤ x.f0) (h1 : x.f0 ≤ 33) : r3_Reads.f k x.f0 x.f1 x.f2 x.f3 x.f4 x.f5 = some (readsL x) := by
  obtain ⟨k, rfl⟩ : ∃ k', k = k' + 1 := ⟨k - 1, by omega⟩
  obtain ⟨f0, f1⟩ := formOf_range x.f0 h0 h1
  unfold r3_Reads.f readsL
  rw [form_eq _ h0 h1]
  simp only [Option.bind_some, ref_hasA _ f0 f1]
  unfold r3_Reads.j0
  simp only [ref_hasB _ f0 f1, Option.bind_some]
  cases hasA (formOf x.f0) <;> cases hasB (formOf x.f0) <;> simp
def rdsP (x y : S24) : Bool := hasD (formOf y.f0) && (readsL x).any (fun r => y.f1 == r)
theorem writes_eq {k : Nat} (hk : 12 ≤ k) (y : S24) (r : Int) (h0 : 0 ≤ y.f0) (h1 : y.f0 ≤ 33) : dag_writes.f k y.f0 y.f1 y.f2 y.f3 y.f4 y.f5 r = some (hasD (formOf y.f0) && y.f1 == r) := by
  obtain ⟨f0, f1⟩ := formOf_range y.f0 h0 h1
  unfold dag_writes.f
  rw [shape_eq (by omega) _ h0 h1]
  simp only [Option.bind_some, isa_hasD _ f0 f1]
  cases hasD (formOf y.f0) <;> simp
theorem reads1_eq {k : Nat} (hk : 12 ≤ k) (y : S24) (r : Int) (h0 : 0 ≤ y.f0) (h1 : y.f0 ≤ 33) : dag_reads_1.f k r y.f0 y.f1 y.f2 y.f3 y.f4 y.f5 = some (hasD (formOf y.f0) && y.f1 == r, y.f0, y.f1, y.f2, y.f3, y.f4, y.f5) := by
  unfold dag_reads_1.f
  rw [writes_eq hk y r h0 h1]; rfl
theorem index_loop (rs : List Int) (hl : rs.length ≤ 1000) (y : S24) (h0 : 0 ≤ y.f0) (h1 : y.f0 ≤ 33) : ∀ (d : Nat) (k i : Nat), i + d = rs.length → 13 + d ≤ k →
    ∃ r, sI_121.l0 k rs (rs.length : Int) (i : Int) y.f0 y.f1 y.f2 y.f3 y.f4 y.f5 = some (r, y.f0, y.f1, y.f2, y.f3, y.f4, y.f5) ∧ (decide (r ≥ 0) = (hasD (formOf y.f0) && (rs.drop i).any (fun r => y.f1 == r)))
  | 0, k, i, hi, hk => by
    obtain ⟨k, rfl⟩ : ∃ k', k = k' + 1 := ⟨k - 1, by omega⟩
    refine ⟨-1, ?_, ?_⟩
    · unfold sI_121.l0
      rw [if_neg (by omega)]
    · rw [List.drop_of_length_le (by omega)]; simp
  | d + 1, k, i, hi, hk => by
    obtain ⟨k, rfl⟩ : ∃ k', k = k' + 1 := ⟨k - 1, by omega⟩
    have hlt : i < rs.length := by omega
    have hr : rd rs (i : Int) = rs[i] := by
      unfold rd
      rw [Int.toNat_natCast, List.getD_eq_getElem?_getD, List.getElem?_eq_getElem hlt]; rfl
    unfold sI_121.l0
    rw [if_pos (by omega), if_pos (by omega), if_pos (by omega), reads1_eq (by omega) y _ h0 h1, wrap_at (by omega), hr, List.drop_eq_getElem_cons hlt]
    simp only [Option.bind_some, List.any_cons]
    obtain ⟨r, h2, h3⟩ := index_loop rs hl y h0 h1 d k (i + 1) (by omega) (by omega)
    cases hd : hasD (formOf y.f0) with
    | false =>
      rw [hd] at h3
      simp only [Bool.false_and, Bool.false_eq_true, if_false]
      exact ⟨r, h2, by simpa using h3⟩
    | true =>
      rw [hd] at h3
      cases hp : (y.f1 == rs[i]) with
      | false =>
        simp only [Bool.and_false, Bool.false_eq_true, if_false, Bool.true_and, Bool.false_or]
        exact ⟨r, h2, by simpa using h3⟩
      | true => exact ⟨(i : Int), by simp, by simp⟩
theorem reads_eq {k : Nat} (hk : 30 ≤ k) (x y : S24) (hx : 0 ≤ x.f0 ∧ x.f0 ≤ 33) (hy : 0 ≤ y.f0 ∧ y.f0 ≤ 33) : dag_reads.f k x.f0 x.f1 x.f2 x.f3 x.f4 x.f5 y.f0 y.f1 y.f2 y.f3 y.f4 y.f5 = some (rdsP x y) := by
  unfold dag_reads.f rdsP
  rw [read_eq (by omega) x hx.1 hx.2]
  simp only [Option.bind_some]
  unfold sC_121.f sI_121.f
  obtain ⟨r, h1, h2⟩ := index_loop (readsL x) (by have := readsL_len x; omega) y hy.1 hy.2 (readsL x).length k 0 (by omega) (by have := readsL_len x; omega)
  rw [show ((0 : Nat) : Int) = 0 from rfl] at h1
  rw [h1]
  simp only [Option.bind_some, List.drop_zero] at h2 ⊢
  rw [h2]
theorem in_loop (rs : List Int) (hl : rs.length ≤ 1000) (v : Int) : ∀ (d : Nat) (k i : Nat), i + d = rs.length → 1 + d ≤ k →
    ∃ r, r0_In.l0 k rs v (i : Int) = some r ∧ (decide (r ≥ 0) = (rs.drop i).any (fun r => v == r))
  | 0, k, i, hi, hk => by
    obtain ⟨k, rfl⟩ : ∃ k', k = k' + 1 := ⟨k - 1, by omega⟩
    refine ⟨-1, ?_, ?_⟩
    · unfold r0_In.l0
      rw [if_neg (by omega)]
    · rw [List.drop_of_length_le (by omega)]; simp
  | d + 1, k, i, hi, hk => by
    obtain ⟨k, rfl⟩ : ∃ k', k = k' + 1 := ⟨k - 1, by omega⟩
    have hlt : i < rs.length := by omega
    have hr : rd rs (i : Int) = rs[i] := by
      unfold rd
      rw [Int.toNat_natCast, List.getD_eq_getElem?_getD, List.getElem?_eq_getElem hlt]; rfl
    unfold r0_In.l0
    rw [if_pos (by omega), if_pos (by omega), wrap_at (by omega), hr, List.drop_eq_getElem_cons hlt]
    simp only [List.any_cons]
    by_cases hp : rs[i] = v
    · rw [if_pos hp]; exact ⟨_, rfl, by simp [hp]⟩
    · rw [if_neg hp]
      obtain ⟨r, h2, h3⟩ := in_loop rs hl v d k (i + 1) (by omega) (by omega)
      refine ⟨r, h2, ?_⟩
      rw [h3, show (v == rs[i]) = false from by simpa using fun e => hp e.symm]; rfl
theorem in_eq {k : Nat} (hk : 5 ≤ k) (x : S24) (v : Int) : ∃ r, r0_In.f k (readsL x) v = some r ∧ (decide (r ≥ 0) = (readsL x).any (fun r => v == r)) := by
  unfold r0_In.f
  have := in_loop (readsL x) (by have := readsL_len x; omega) v (readsL x).length k 0 (by omega) (by have := readsL_len x; omega)
  simpa using this
def dist (x y : S24) : Int :=
  let d := if effOp x.f0 = true ∧ effOp y.f0 = true then 1 else if rdsP x y = true then 0 else -1
  if rdsP y x = true ∨ (hasD (formOf y.f0) = true ∧ hasD (formOf x.f0) = true ∧ x.f1 = y.f1) then mx d (lateOp x.f0) else d
theorem dist_eq {k : Nat} (hk : 40 ≤ k) (x y : S24) (hx : 0 ≤ x.f0 ∧ x.f0 ≤ 33) (hy : 0 ≤ y.f0 ∧ y.f0 ≤ 33) : dag_dist.f k x.f0 x.f1 x.f2 x.f3 x.f4 x.f5 y.f0 y.f1 y.f2 y.f3 y.f4 y.f5 = some (dist x y) := by
  obtain ⟨k, rfl⟩ : ∃ k', k = k' + 4 := ⟨k - 4, by omega⟩
  obtain ⟨f0, f1⟩ := formOf_range y.f0 hy.1 hy.2
  unfold dag_dist.f dag_dist.j0 dag_dist.j1 dag_dist.j2 dag_dist.j3
  rw [reads_eq (by omega) x y hx hy]
  simp only [Option.bind_some]
  rw [eff_eq (by omega) _ hx.1 hx.2, eff_eq (by omega) _ hy.1 hy.2, reads_eq (by omega) y x hy hx, shape_eq (by omega) _ hy.1 hy.2]
  simp only [Option.bind_some, isa_hasD _ f0 f1]
  rw [writes_eq (by omega) x _ hx.1 hx.2, late_eq (by omega) _ hx.1 hx.2]
  unfold dist
  cases rdsP x y <;> cases effOp x.f0 <;> cases effOp y.f0 <;> cases rdsP y x <;> cases hasD (formOf y.f0) <;> cases hasD (formOf x.f0) <;> by_cases h : x.f1 = y.f1 <;> simp [h]
def wOf (x : S24) : Int := if hasD (formOf x.f0) = true then x.f1 else -1
theorem rwrites_eq (x : S24) (h0 : 0 ≤ x.f0) (h1 : x.f0 ≤ 33) : r3_Writes.f x.f0 x.f1 x.f2 x.f3 x.f4 x.f5 = some (wOf x) := by
  obtain ⟨f0, f1⟩ := formOf_range x.f0 h0 h1
  unfold r3_Writes.f wOf
  rw [form_eq _ h0 h1]
  simp only [Option.bind_some, ref_hasD _ f0 f1]
  cases hasD (formOf x.f0) <;> simp
theorem okI_op {x : S24} (h : okI x = true) : 0 ≤ x.f0 ∧ x.f0 ≤ 33 := (ins_parts h).1
theorem okI_d {x : S24} (h : okI x = true) : 0 ≤ x.f1 := (reg_parts (ins_parts h).2.1).1
theorem rdist_eq {k : Nat} (hk : 40 ≤ k) (x y : S24) (hx : okI x = true) (hy : okI y = true) : r13_dist.f k x.f0 x.f1 x.f2 x.f3 x.f4 x.f5 y.f0 y.f1 y.f2 y.f3 y.f4 y.f5 = some (dist x y) := by
  obtain ⟨k, rfl⟩ : ∃ k', k = k' + 5 := ⟨k - 5, by omega⟩
  obtain ⟨x0, x1⟩ := okI_op hx
  obtain ⟨y0, y1⟩ := okI_op hy
  have dx := okI_d hx
  have dy := okI_d hy
  unfold r13_dist.f r13_dist.j0 r13_dist.j1 r13_dist.j2 r13_dist.j3 r13_dist.j4
  rw [rwrites_eq x x0 x1, rwrites_eq y y0 y1]
  simp only [Option.bind_some]
  rw [rreads_eq (by omega) x x0 x1, rreads_eq (by omega) y y0 y1, reff_eq _ x0 x1, reff_eq _ y0 y1, rlate_eq (by omega) _ x0 x1]
  simp only [Option.bind_some]
  obtain ⟨r1, e1, q1⟩ := in_eq (show 5 ≤ k + 5 by omega) x (wOf y)
  obtain ⟨r2, e2, q2⟩ := in_eq (show 5 ≤ k + 1 by omega) y (wOf x)
  rw [e1, e2]
  simp only [Option.bind_some, q1, q2]
  unfold dist rdsP wOf
  cases hdx : hasD (formOf x.f0) <;> cases hdy : hasD (formOf y.f0) <;> cases effOp x.f0 <;> cases effOp y.f0 <;> by_cases h : x.f1 = y.f1 <;>
    simp [h, dx, dy] <;> (first | done | (rw [if_neg (by omega)]; done) | skip) <;> (try split) <;> (try split) <;> simp_all
def edgesSeg (l : List S24) (i : Nat) : Nat → Nat → List S51
  | _, 0 => []
  | j, d + 1 => (if 0 ≤ dist (q24 l i) (q24 l j) then [(⟨(i : Int), (j : Int), dist (q24 l i) (q24 l j)⟩ : S51)] else []) ++ edgesSeg l i (j + 1) d
def edgesFrom (l : List S24) (i : Nat) : List S51 := edgesSeg l i (i + 1) (l.length - (i + 1))
def edgesUp (l : List S24) : Nat → Nat → List S51
  | _, 0 => []
  | i, d + 1 => edgesFrom l i ++ edgesUp l (i + 1) d
theorem edgesUp_succ (l : List S24) (i d : Nat) : edgesUp l i (d + 1) = edgesFrom l i ++ edgesUp l (i + 1) d := rfl
def edges (l : List S24) : List S51 := edgesUp l 0 l.length
theorem edgesSeg_len (l : List S24) (i : Nat) : ∀ (d j : Nat), (edgesSeg l i j d).length ≤ d
  | 0, _ => by simp [edgesSeg]
  | d + 1, j => by
    have := edgesSeg_len l i d (j + 1)
    unfold edgesSeg
    split <;> simp <;> omega
def okL (l : List S24) : Prop := ∀ i : Nat, i < l.length → okI (q24 l i) = true
theorem ref_l1 (l : List S24) (hl : l.length ≤ 1000) (ho : okL l) (i : Nat) (hi : i < l.length) : ∀ (d k : Nat) (acc : List S51) (j : Nat), 50 ≤ k → j + d = l.length → i < j → acc.length + d ≤ 1000000000 →
    r13_Edges.l1 (k + d + 1) l acc (i : Int) (j : Int) = r13_Edges.l0 k l (acc ++ edgesSeg l i j d) ((i + 1 : Nat) : Int)
  | 0, k, acc, j, hk, hj, hij, hb => by
    unfold r13_Edges.l1
    rw [if_neg (by omega), wrap_at (by omega)]
    simp [edgesSeg]
  | d + 1, k, acc, j, hk, hj, hij, hb => by
    have hlt : j < l.length := by omega
    rw [show k + (d + 1) + 1 = (k + d + 1) + 1 by omega]
    unfold r13_Edges.l1
    rw [if_pos (by omega), if_pos (by omega), if_pos (by omega), if_pos (by omega), rdist_eq (by omega) _ _ (ho i hi) (ho j hlt), wrap_at (by omega)]
    simp only [Option.bind_some]
    unfold edgesSeg
    by_cases h : 0 ≤ dist (q24 l i) (q24 l j)
    · rw [if_pos h, if_pos (by omega), if_pos h, ref_l1 l hl ho i hi d k _ (j + 1) hk (by omega) (by omega) (by simp; omega)]
      simp
    · rw [if_neg h, if_neg h, ref_l1 l hl ho i hi d k _ (j + 1) hk (by omega) (by omega) (by omega)]
      simp
theorem ref_l0 (l : List S24) (hl : l.length ≤ 1000) (ho : okL l) : ∀ (d k : Nat) (acc : List S51) (i : Nat), i + d = l.length → 60 + d * (l.length + 2) ≤ k → acc.length + d * l.length ≤ 100000000 →
    r13_Edges.l0 k l acc (i : Int) = some (acc ++ edgesUp l i d)
  | 0, k, acc, i, hi, hk, hb => by
    obtain ⟨k, rfl⟩ : ∃ k', k = k' + 1 := ⟨k - 1, by omega⟩
    unfold r13_Edges.l0
    rw [if_neg (by omega)]
    simp [edgesUp]
  | d + 1, k, acc, i, hi, hk, hb => by
    have e1 : (d + 1) * (l.length + 2) = d * (l.length + 2) + (l.length + 2) := Nat.succ_mul _ _
    have e2 : (d + 1) * l.length = d * l.length + l.length := Nat.succ_mul _ _
    obtain ⟨k, rfl⟩ : ∃ k', k = (k' + (l.length - (i + 1)) + 1) + 1 := ⟨k - (l.length - (i + 1)) - 2, by omega⟩
    unfold r13_Edges.l0
    rw [if_pos (by omega), wrap_at (by omega), ref_l1 l hl ho i (by omega) (l.length - (i + 1)) k acc (i + 1) (by omega) (by omega) (by omega) (by omega)]
    have h3 := edgesSeg_len l i (l.length - (i + 1)) (i + 1)
    rw [ref_l0 l hl ho d k _ (i + 1) (by omega) (by omega) (by simp; omega)]
    rw [edgesUp_succ]
    unfold edgesFrom
    simp
theorem ref_edges {k : Nat} (l : List S24) (hl : l.length ≤ 200) (ho : okL l) (hk : 50000 ≤ k) : r13_Edges.f k l = some (edges l) := by
  have hm : l.length * (l.length + 2) ≤ 200 * 202 := Nat.mul_le_mul hl (by omega)
  have hm2 : l.length * l.length ≤ 200 * 200 := Nat.mul_le_mul hl hl
  unfold r13_Edges.f edges
  rw [show (0 : Int) = ((0 : Nat) : Int) from rfl, ref_l0 l (by omega) ho l.length k [] 0 (by omega) (by omega) (by simp; omega)]
  simp
theorem rd_drop (l : List S24) (i j : Nat) (h : i + j < l.length) : q24 (l.drop i) (j : Int) = q24 l ((i + j : Nat) : Int) := by
  rw [rd_at _ _ (by simp; omega), rd_at _ _ h]
  simp
theorem own_l1 (l : List S24) (hl : l.length ≤ 1000) (ho : okL l) (i : Nat) (hi : i < l.length) : ∀ (d k : Nat) (acc : List S51) (j : Nat), 50 ≤ k → i + 1 + j + d = l.length → acc.length + d ≤ 1000000000 →
    dag_Edges.l1 (k + d + 1) l acc (i : Int) l (l.length : Int) (i : Int) (l.drop (i + 1)) ((l.drop (i + 1)).length : Int) (j : Int) (q24 l i).f0 (q24 l i).f1 (q24 l i).f2 (q24 l i).f3 (q24 l i).f4 (q24 l i).f5 = dag_Edges.l0 k l (acc ++ edgesSeg l i (i + 1 + j) d) l (l.length : Int) ((i + 1 : Nat) : Int)
  | 0, k, acc, j, hk, hj, hb => by
    unfold dag_Edges.l1
    rw [if_neg (by rw [List.length_drop]; omega), wrap_at (by omega)]
    simp [edgesSeg]
  | d + 1, k, acc, j, hk, hj, hb => by
    have hlt : i + 1 + j < l.length := by omega
    rw [show k + (d + 1) + 1 = (k + d + 1) + 1 by omega]
    unfold dag_Edges.l1
    rw [if_pos (by rw [List.length_drop]; omega), if_pos (by omega), if_pos (by rw [List.length_drop]; omega), rd_drop l (i + 1) j (by omega), dist_eq (by omega) _ _ (okI_op (ho i hi)) (okI_op (ho _ hlt)), wrap_at (n := j) (by omega), wrap_at (n := i) (by omega)]
    simp only [Option.bind_some]
    have e1 : wrap64 (((i + 1 : Nat) : Int) + (j : Int)) = ((i + 1 + j : Nat) : Int) := by unfold wrap64; omega
    rw [e1]
    unfold edgesSeg
    by_cases h : 0 ≤ dist (q24 l i) (q24 l ((i + 1 + j : Nat) : Int))
    · rw [if_pos h, if_pos (by omega), if_pos h, own_l1 l hl ho i hi d k _ (j + 1) hk (by omega) (by simp; omega)]
      simp [Nat.add_assoc]
    · rw [if_neg h, if_neg h, own_l1 l hl ho i hi d k _ (j + 1) hk (by omega) (by omega)]
      simp [Nat.add_assoc]
theorem own_l0 (l : List S24) (hl : l.length ≤ 1000) (ho : okL l) : ∀ (d k : Nat) (acc : List S51) (i : Nat), i + d = l.length → 60 + d * (l.length + 2) ≤ k → acc.length + d * l.length ≤ 100000000 →
    dag_Edges.l0 k l acc l (l.length : Int) (i : Int) = some (acc ++ edgesUp l i d)
  | 0, k, acc, i, hi, hk, hb => by
    obtain ⟨k, rfl⟩ : ∃ k', k = k' + 1 := ⟨k - 1, by omega⟩
    unfold dag_Edges.l0
    rw [if_neg (by omega)]
    simp [edgesUp]
  | d + 1, k, acc, i, hi, hk, hb => by
    have e1 : (d + 1) * (l.length + 2) = d * (l.length + 2) + (l.length + 2) := Nat.succ_mul _ _
    have e2 : (d + 1) * l.length = d * l.length + l.length := Nat.succ_mul _ _
    obtain ⟨k, rfl⟩ : ∃ k', k = (k' + (l.length - (i + 1)) + 1) + 1 := ⟨k - (l.length - (i + 1)) - 2, by omega⟩
    unfold dag_Edges.l0
    rw [if_pos (by omega), if_pos (by omega), if_pos (by omega), wrap_at (by omega), if_pos (by omega), if_pos (by omega)]
    simp only [Option.bind_some, Int.toNat_natCast]
    have h4 := own_l1 l hl ho i (by omega) (l.length - (i + 1)) k acc 0 (by omega) (by omega) (by omega)
    rw [show ((0 : Nat) : Int) = 0 from rfl] at h4
    rw [h4]
    have h3 := edgesSeg_len l i (l.length - (i + 1)) (i + 1)
    rw [own_l0 l hl ho d k _ (i + 1) (by omega) (by omega) (by simp; omega)]
    rw [edgesUp_succ]
    unfold edgesFrom
    simp
theorem own_edges {k : Nat} (l : List S24) (hl : l.length ≤ 200) (ho : okL l) (hk : 50000 ≤ k) : dag_Edges.f k l = some (edges l) := by
  have hm : l.length * (l.length + 2) ≤ 200 * 202 := Nat.mul_le_mul hl (by omega)
  have hm2 : l.length * l.length ≤ 200 * 200 := Nat.mul_le_mul hl hl
  unfold dag_Edges.f edges
  rw [show (0 : Int) = ((0 : Nat) : Int) from rfl, own_l0 l (by omega) ho l.length k [] 0 (by omega) (by omega) (by simp; omega)]
  simp
end
section
attribute [local go_sem] max2_int min2_int max_two min_two max_three min_three max_four min_four
theorem eqA24 (d : Nat) (w : World) (x0 y0 : Int) (x1 y1 : Int) (x2 y2 : Int) (x3 y3 : Int) (x4 y4 : Int) (x5 y5 : ByteArray) :
    (Op.equalIn (d + 2) 24 (.agg #[.int .i64 x0, .int .i64 x1, .int .i64 x2, .int .i64 x3, .int .i64 x4, .string x5]) (.agg #[.int .i64 y0, .int .i64 y1, .int .i64 y2, .int .i64 y3, .int .i64 y4, .string y5])).run Try.prog w = .ok (x0 == y0 && (x1 == y1 && (x2 == y2 && (x3 == y3 && (x4 == y4 && (x5.toList == y5.toList)))))) w := by
 refine eqA_of Try.underlying24 (by kernel_rfl) ?_
 refine eqf_cons (by rfl) (by go_simp; rfl) (by go_simp; rfl) (by go_simp) ?_
 refine eqf_cons (by rfl) (by go_simp; rfl) (by go_simp; rfl) (by go_simp) ?_
 refine eqf_cons (by rfl) (by go_simp; rfl) (by go_simp; rfl) (by go_simp) ?_
 refine eqf_cons (by rfl) (by go_simp; rfl) (by go_simp; rfl) (by go_simp) ?_
 refine eqf_cons (by rfl) (by go_simp; rfl) (by go_simp; rfl) (by go_simp) ?_
 exact eqf_last (by rfl) (by go_simp; rfl) (by go_simp; rfl) (by go_simp)
end
section
open Go.RowKit Go.Shelf Go.Proofs.YtibfkkjkahpobaaW.PrintWords Go.Proofs.YtibfkkjkahpobaaW.PrintLast Go.Proofs.YtibfkkjkahpobaaW.PrintMore
attribute [local go_sem] Oper.semAt_some
def dag_Urge.step (h : List Int) (x : S51) : Option (List Int) :=
  if 0 ≤ x.f0 ∧ x.f0 < h.length ∧ 0 ≤ x.f1 ∧ x.f1 < h.length then some (h.set x.f0.toNat (min (rd h x.f0) (rd h x.f1))) else none
def dag_Urge.init (k n : Nat) : Nat → List S24 → Option (List Int)
  | _, [] => some []
  | i, x :: xs => (isa_Effect.f k x.f0).bind fun v => (dag_Urge.init k n (i + 1) xs).bind fun r => some ((if v = true then (i : Int) else (n : Int)) :: r)
def dag_Urge.f (k : Nat) (l : List S24) (es : List S51) : Option (List Int) := if l.length ≤ 35184372088832 then (dag_Urge.init k l.length 0 l).bind fun h => es.reverse.foldlM dag_Urge.step h else none
theorem dag_Urge.init_at (k n : Nat) : ∀ (i : Nat) (l : List S24) (h0 : List Int), dag_Urge.init k n i l = some h0 → h0.length = l.length ∧ ∀ j : Nat, j < l.length → ∃ v, isa_Effect.f k (q24 l j).f0 = some v ∧ rd h0 j = if v = true then ((i + j : Nat) : Int) else (n : Int)
  | i, [], h0, h => by
    simp only [dag_Urge.init, Option.some.injEq] at h
    subst h
    exact ⟨rfl, fun j hj => absurd hj (Nat.not_lt_zero _)⟩
  | i, x :: xs, h0, h => by
    simp only [dag_Urge.init] at h
    obtain ⟨v, hv, h⟩ := Option.bind_eq_some_iff.mp h
    obtain ⟨r, hr, h⟩ := Option.bind_eq_some_iff.mp h
    obtain rfl := Option.some.inj h
    obtain ⟨h1, h2⟩ := dag_Urge.init_at k n (i + 1) xs r hr
    refine ⟨by simp [h1], fun j hj => ?_⟩
    cases j with
    | zero => exact ⟨v, by simpa [q24] using hv, by simp [rd]⟩
    | succ j =>
      obtain ⟨u, h3, h4⟩ := h2 j (by simpa using hj)
      refine ⟨u, by simpa [q24] using h3, ?_⟩
      rw [show i + (j + 1) = i + 1 + j by omega, ← h4]
      simp [rd]
theorem dag_Urge.range : ∀ (es : List S51) (h r : List Int), es.foldlM dag_Urge.step h = some r → (∀ x ∈ es, 0 ≤ x.f0 ∧ x.f0 < h.length ∧ 0 ≤ x.f1 ∧ x.f1 < h.length)
  | [], h, r, _ => by simp
  | x :: es, h, r, hf => by
    rw [List.foldlM_cons] at hf
    obtain ⟨h1, hs, hf⟩ := Option.bind_eq_some_iff.mp hf
    unfold dag_Urge.step at hs
    split at hs
    · rename_i hc
      have h2 := dag_Urge.range es h1 r hf
      have hl : h1.length = h.length := by rw [← Option.some.inj hs]; simp
      rw [hl] at h2
      intro y hy
      rcases List.mem_cons.1 hy with rfl | hy
      · exact hc
      · exact h2 y hy
    · exact absurd hs (by simp)
theorem dag_Urge.calls (k : Nat) (A0 : Option Addr) (c0 : Nat) (l0 : List S24) (A1 : Option Addr) (c1 : Nat) (l1 : List S51) (r : List Int) (w : World) (hr0 : Kd.C k24 w A0 l0.length l0) (hc0 : l0.length ≤ c0) (hr1 : Kd.C k51 w A1 l1.length l1) (hc1 : l1.length ≤ c1) (h : dag_Urge.f k l0 l1 = some r) :
    Calls Try.prog 60 #[.slice A0 l0.length c0, .slice A1 l1.length c1] w fun e w' => ∃ v0_ : Value, e = .returned (v0_) ∧ Kd.R (Kd.int .i64) 3 w' w.heap.size (fun _ => True) v0_ r ∧ Below w.heap.size w w' := by
  have hu24 := Try.underlying24
  have hu51 := Try.underlying51
  unfold dag_Urge.f at h
  by_cases hlen : l0.length ≤ 35184372088832
  · rw [if_pos hlen] at h
    obtain ⟨h0, hi, hf⟩ := Option.bind_eq_some_iff.mp h
    have Hi := aM_ hi
    have Hf := aM_ hf
    clear h hi hf
    refine callsIn_wide.1 (callsIn_of_wp_marks (n := 5) Try.func60 rfl trivial ?_ rfl)
    refine wpIn_wide.2 ?_
    simp only [Try.ntmps60, List.size_toArray, List.length_cons, List.length_nil, Nat.reduceAdd, Nat.reduceSub, Array.replicate_succ, Array.replicate_zero, List.push_toArray, List.append_toArray, List.nil_append, List.cons_append]
    have HM := aM_ hlen
    have HB := aM_ (Below.refl w.heap.size w)
    go_wp2_with (first | ((with_reducible refine gate_dst (N := 12) rfl ?_); refine Kd.R_make (Kd.int .i64) _ 3 rfl (N := 12) rfl 25 _ _ rfl (l0.length : Int) rfl rfl Try.underlying25 (.int .i64 0) 8 info3 rfl (by decide) (by omega) 0 (ok := fun k => w.heap.size ≤ k) (okp := fun k => w.heap.size ≤ k) rfl (fun _ hk => hk) (Nat.le_refl _) (Int.natCast_nonneg _) (by have := HM.out; omega) (Below.refl _ _) (Nat.le_refl _) ?_; intro v12 w5 ho6 hb hg_ hnew_; obtain ⟨g4, cap4, e4, hg4, hRow⟩ := Row.shape ho6 hnew_; subst e4; simp only [List.length_replicate, Int.toNat_natCast] at hRow ⊢; have HO := aM_ hRow; have HB1 := aM_ hb; have HN := aM_ hg4; clear ho6 hb hg_ hnew_ hg4 hRow) | ((with_reducible refine gate_dst (N := 5) rfl ?_); refine bX_ (N := 5) (cs := #[.slice none 0 0]) (t := 25) ?_; intro g5 hg w6 hbox hb; have hcb := (bC_ hbox 0).trans rfl; have hfb := bZ_ hbox 0; have BX := aM_ hbox; have HG := aM_ hg; have HB2 := aM_ hb; clear hbox hg hb))
    obtain ⟨hl0, hlate⟩ := dag_Urge.init_at k l0.length 0 l0 h0 Hi.out
    have hlt4 : g4 < w5.heap.size := HO.out.lt
    have hne45 : g4 ≠ g5 := by have := HG.out; omega
    go_loopw [15] (fun i wr => ∃ j : Nat, j ≤ l0.length ∧ i = .int .i64 j ∧ As_ (Row w.heap.size wr g4 cap4 l0.length (h0.take j ++ List.replicate (l0.length - j) 0)) ∧ As_ (wr.heap[g5]? = some (.cells #[.slice (some ⟨g4, 0, none⟩) l0.length cap4] 25 (0, 0))) ∧ As_ (Below w.heap.size w wr)) (fun i _ => l0.length - (intOf i).toNat)
    case atStart =>
      refine ⟨0, Nat.zero_le _, rfl, ⟨?_⟩, ⟨?_⟩, ⟨?_⟩⟩
      · simp only [List.take_zero, List.nil_append, Nat.sub_zero]
        exact HO.out.step (by rw [Below.heap_setCell _ _ _ _ hne45]; exact HB2.out.block g4 hlt4)
      · exact blk_put BX.out 0 _ rfl
      · exact (HB1.out.trans (HB2.out.mono HB1.out.size)).setCell (p := ⟨g5, 0, none⟩) (by show w.heap.size ≤ g5; have := HG.out; have := HB1.out.size; omega) _
    case round =>
      clear hcb hfb HO BX
      obtain ⟨j, hj, rfl, HO, BX, HB⟩ := hrel
      by_cases hlt : j < l0.length
      · have hla := aM_ (hlate j hlt)
        clear hlate
        obtain ⟨ad, e1, hx0, hx1, hx2, hx3, hx4, hx5⟩ := at_T24 hr0 (j : Int) (Int.natCast_nonneg _) (by omega)
        subst e1
        rw [Int.toNat_natCast] at hx0 hx1 hx2 hx3 hx4 hx5
        replace hx0 := hC_ HB hx0
        replace hx1 := hC_ HB hx1
        replace hx2 := hC_ HB hx2
        replace hx3 := hC_ HB hx3
        replace hx4 := hC_ HB hx4
        replace hx5 := hC_ HB hx5
        have p1 : ((0 : Int) ≤ (j : Int)) = True := eq_true (Int.natCast_nonneg _)
        have q1 : ((j : Int) < (l0.length : Int)) = True := eq_true (by omega)
        have q2 : (j < l0.length) = True := eq_true hlt
        have bx : (wr.alloc (.cells #[.int .i64 0, .int .i64 0, .int .i64 0, .int .i64 0, .int .i64 0, .string (⟨#[]⟩ : ByteArray)] 24)).heap[wr.heap.size]? = some (.cells #[.int .i64 0, .int .i64 0, .int .i64 0, .int .i64 0, .int .i64 0, .string (⟨#[]⟩ : ByteArray)] 24 (0, 0)) := blk_new wr _
        have z0 := (bC_ bx 0).trans rfl
        have z1 := (bC_ bx 1).trans rfl
        have z2 := (bC_ bx 2).trans rfl
        have z3 := (bC_ bx 3).trans rfl
        have z4 := (bC_ bx 4).trans rfl
        have z5 := (bC_ bx 5).trans rfl
        have y0 := bZ_ bx 0
        have y1 := bZ_ bx 1
        have y2 := bZ_ bx 2
        have y3 := bZ_ bx 3
        have y4 := bZ_ bx 4
        have y5 := bZ_ bx 5
        clear bx
        have n5 : g5 ≠ wr.heap.size := by have := blk_lt BX.out; omega
        have n5' : wr.heap.size ≠ g5 := fun e => n5 e.symm
        have n4 : g4 ≠ wr.heap.size := by have := HO.out.lt; omega
        have n4' : wr.heap.size ≠ g4 := fun e => n4 e.symm
        have bx := blk_new wr (.cells #[.int .i64 (q24 l0 (j : Int)).f0, .int .i64 (q24 l0 (j : Int)).f1, .int .i64 (q24 l0 (j : Int)).f2, .int .i64 (q24 l0 (j : Int)).f3, .int .i64 (q24 l0 (j : Int)).f4, .string (q24 l0 (j : Int)).f5] 24 (0, 0))
        have HO7 := aM_ (HO.out.step (Below.heap_alloc wr (.cells #[.int .i64 (q24 l0 (j : Int)).f0, .int .i64 (q24 l0 (j : Int)).f1, .int .i64 (q24 l0 (j : Int)).f2, .int .i64 (q24 l0 (j : Int)).f3, .int .i64 (q24 l0 (j : Int)).f4, .string (q24 l0 (j : Int)).f5] 24 (0, 0)) g4 HO.out.lt))
        have BX7 := aM_ (kA_ BX.out (.cells #[.int .i64 (q24 l0 (j : Int)).f0, .int .i64 (q24 l0 (j : Int)).f1, .int .i64 (q24 l0 (j : Int)).f2, .int .i64 (q24 l0 (j : Int)).f3, .int .i64 (q24 l0 (j : Int)).f4, .string (q24 l0 (j : Int)).f5] 24 (0, 0)))
        have HB7 := aM_ (HB.out.alloc HB.out.size (.cells #[.int .i64 (q24 l0 (j : Int)).f0, .int .i64 (q24 l0 (j : Int)).f1, .int .i64 (q24 l0 (j : Int)).f2, .int .i64 (q24 l0 (j : Int)).f3, .int .i64 (q24 l0 (j : Int)).f4, .string (q24 l0 (j : Int)).f5] 24 (0, 0)))
        have x0 := (bC_ bx 0).trans rfl
        have b5 := (bC_ BX7.out 0).trans rfl
        have hR := HO7.out.cell (j : Int) (Int.natCast_nonneg _) (by omega)
        rw [Int.toNat_natCast] at hR
        obtain ⟨b4, b4'⟩ := hR
        clear bx
        obtain ⟨t, ht, hrd⟩ := hla.out
        have ht := aM_ ht
        have hrd := aM_ hrd
        clear hla
        cases t
        all_goals go_wp2_with (first | (go_at_call 94; (with_reducible refine (isa_Effect.calls k (q24 l0 (j : Int)).f0 _ _ ht.out).mono ?_); rintro e w' ⟨rfl, ⟨nd, rfl⟩⟩))
        all_goals go_roundw
        all_goals first
          | (refine ⟨j + 1, by omega, by simp, ⟨?_⟩, ⟨?_⟩, ⟨?_⟩⟩
             · have e_ := hrd.out
               simp only [Bool.false_eq_true, if_false, if_true, Nat.zero_add] at e_
               rw [← dag_High.set_at h0 l0.length j hl0 hlt, e_]
               first
                 | exact Row.step (Row.putN HO7.out j _) rfl
                 | exact Row.putN (HO7.out.step rfl) j _
                 | (rw [← List.set_set]; exact Row.putN (Row.step (Row.putN HO7.out j _) rfl) j _)
             · first
                 | (show ((wr.alloc (.cells #[.int .i64 (q24 l0 (j : Int)).f0, .int .i64 (q24 l0 (j : Int)).f1, .int .i64 (q24 l0 (j : Int)).f2, .int .i64 (q24 l0 (j : Int)).f3, .int .i64 (q24 l0 (j : Int)).f4, .string (q24 l0 (j : Int)).f5] 24 (0, 0))).setCell ⟨g4, j, none⟩ _).heap[g5]? = _; rw [Below.heap_setCell _ _ _ _ hne45.symm]; exact BX7.out)
                 | (rw [Below.heap_setCell _ _ _ _ hne45.symm]; show ((wr.alloc (.cells #[.int .i64 (q24 l0 (j : Int)).f0, .int .i64 (q24 l0 (j : Int)).f1, .int .i64 (q24 l0 (j : Int)).f2, .int .i64 (q24 l0 (j : Int)).f3, .int .i64 (q24 l0 (j : Int)).f4, .string (q24 l0 (j : Int)).f5] 24 (0, 0))).setCell ⟨g4, j, none⟩ _).heap[g5]? = _; rw [Below.heap_setCell _ _ _ _ hne45.symm]; exact BX7.out)
                 | (rw [Below.heap_setCell _ _ _ _ hne45.symm]; exact BX7.out)
             · repeat (first | exact HB7.out | apply bN_ | apply b1_ | refine Below.setCell (p := ⟨g4, j, none⟩) ?_ HN.out _))
          | (simp [intOf]; omega)
          | trace_state
      · obtain rfl : j = l0.length := by omega
        have p1 : ((l0.length : Int) < (l0.length : Int)) = False := eq_false (by omega)
        simp only [Nat.sub_self, List.replicate_zero, List.append_nil, List.take_of_length_le (Nat.le_of_eq hl0)] at HO
        go_wp2_with (go_at_call 93; refine (callsIn_wide.1 (back_in Fence.wide 1 trivial rfl _ _ _ _)).mono ?_; rintro e w' ⟨rfl, rfl⟩)
        have hbe := blk_new wr (.cells #[.slice A1 l1.length c1] 31 (0, 0))
        have HO7 := aM_ (HO.out.step (Below.heap_alloc wr (.cells #[.slice A1 l1.length c1] 31 (0, 0)) g4 HO.out.lt))
        have BX7 := aM_ (kA_ BX.out (.cells #[.slice A1 l1.length c1] 31 (0, 0)))
        have HB7 := aM_ (HB.out.alloc HB.out.size (.cells #[.slice A1 l1.length c1] 31 (0, 0)))
        have hlt5 := blk_lt BX.out
        have hsz : (wr.alloc (.cells #[.slice A1 l1.length c1] 31 (0, 0))).heap.size = wr.heap.size + 1 := by simp
        have hwr := HB.out.size
        obtain ⟨Be, hBe⟩ : ∃ Be, Be = wr.heap.size := ⟨_, rfl⟩
        rw [← hBe] at hbe hsz hlt5 ⊢
        generalize hW7 : wr.alloc (.cells #[.slice A1 l1.length c1] 31 (0, 0)) = W7 at hbe HO7 BX7 HB7 hsz ⊢
        have hrg := dag_Urge.range _ _ _ Hf.out
        refine wpIn_wide.1 (wpIn_rangeFunc_ownH (F := Fence.wide) (n := 5) rfl (by omega) (gf := 116) (lb := #[.pointer (some ⟨Be, 0, none⟩)]) rfl trivial (enters_of Try.func116 (by kernel_rfl) rfl)
          (back_stops Fence.wide (5 - 1) trivial rfl (by omega) Be A1 c1 l1 w W7 hr1 HB7.out hbe) (fun h k => KpB.t h k) (KpB.b HB7.out.size (by omega)) (Below.refl _ _) (fun _ => rfl)
          (fun pre W => (∃ hs, (pre.map (fun j : Fin l1.length => comes l1 j.1)).foldlM dag_Urge.step h0 = some hs ∧ Row w.heap.size W g4 cap4 l0.length hs) ∧ W.heap[g5]? = some (.cells #[.slice (some ⟨g4, 0, none⟩) l0.length cap4] 25 (0, 0)) ∧ W.heap[Be]? = some (.cells #[.slice A1 l1.length c1] 31 (0, 0)) ∧ Below w.heap.size w W)
          (fun _ _ _ => False)
          ?hI (fun _ _ _ _ _ hs _ _ => hs) ⟨⟨h0, rfl, HO7.out⟩, BX7.out, hbe, HB7.out⟩
          (fun x a' W => ∃ Bx, Be < Bx ∧ W.heap[Bx]? = some (.cells #[.int .i64 (comes l1 x.1).f0, .int .i64 (comes l1 x.1).f1, .int .i64 (comes l1 x.1).f2] 51 (0, 0)) ∧
            a' = { tmps := (Value.slice A0 l0.length c0 :: Value.slice A1 l1.length c1 :: undef :: undef :: Value.slice none 0 0 :: Value.pointer (some ⟨g5, 0, none⟩) :: u6 :: u7 :: undef :: Value.pointer (some ⟨Bx, 0, none⟩) :: Value.slice A0 l0.length c0 :: Value.int .i64 l0.length :: Value.slice (some ⟨g4, 0, none⟩) l0.length cap4 :: Value.slice A0 l0.length c0 :: Value.int .i64 l0.length :: Value.int .i64 l0.length :: Value.bool false :: u17 :: u18 :: u19 :: u20 :: u21 :: u22 :: u23 :: u24 :: u25 :: u26 :: u27 :: u28 :: u29 :: u30 :: u31 :: u32 :: Value.slice A1 l1.length c1 :: Value.func (.func 116) #[] #[.pointer (some ⟨Be, 0, none⟩)] :: Value.int .i64 ((l1.length : Int) - 1 - (x.1 : Int)) :: Value.agg #[.int .i64 (comes l1 x.1).f0, .int .i64 (comes l1 x.1).f1, .int .i64 (comes l1 x.1).f2] :: undef :: undef :: undef :: undef :: undef :: undef :: undef :: undef :: undef :: undef :: undef :: undef :: undef :: undef :: undef :: undef :: []).toArray, defers := [] })
          ?hAx ?assign ?body ?done ?stop)
        case hI =>
          rintro pre X Y row ⟨⟨hs, e1, hR⟩, h5, he, hB⟩ hg hr
          obtain ⟨cs4, hc4⟩ := hR.cells
          exact ⟨⟨hs, e1, hR.step (own_blk hc4 hg hr)⟩, (own_blk h5 hg hr).trans h5, (own_blk he hg hr).trans he, hB.grown hg hB.size (fun k e => by have := (hr k e).1; omega)⟩
        case hAx =>
          rintro x a' _ X Y row ⟨Bx, h1, h2, h3⟩ hg hr
          exact ⟨Bx, h1, (own_blk h2 hg hr).trans h2, h3⟩
        case assign =>
          rintro l pre x W K ⟨⟨hs, e1, hR⟩, h5, he, hB⟩ hK
          have bx : (W.alloc (.cells #[.int .i64 0, .int .i64 0, .int .i64 0] 51)).heap[W.heap.size]? = some (.cells #[.int .i64 0, .int .i64 0, .int .i64 0] 51 (0, 0)) := blk_new W _
          have z0 := (bC_ bx 0).trans rfl
          have z1 := (bC_ bx 1).trans rfl
          have z2 := (bC_ bx 2).trans rfl
          have y0 := bZ_ bx 0
          have y1 := bZ_ bx 1
          have y2 := bZ_ bx 2
          clear bx
          gi_wp2
          exact hK _ _ ((KeepsOthers.alloc _ _).from _) ⟨(Below.refl _ W).alloc hB.size _, Below.heap_alloc W _ Be (blk_lt he)⟩ ⟨⟨hs, e1, hR.step (Below.heap_alloc W _ g4 hR.lt)⟩, kA_ h5 _, kA_ he _, hB.alloc hB.size _⟩ ⟨W.heap.size, blk_lt he, blk_new W _, by subst hBe; rfl⟩
        case body =>
          rintro l pre x a' W hl ⟨r', hr'⟩ ⟨⟨hs, e1, hR⟩, h5, he, hB⟩ ⟨Bx, hBx, hbx, rfl⟩ hlen'
          obtain ⟨r0, r1, r2, r3⟩ := hrg (comes l1 x.1) (comes_mem l1 x.1 x.2)
          rw [hl0] at r1 r3
          have x0 := (bC_ hbx 0).trans rfl
          have x1 := (bC_ hbx 1).trans rfl
          have x2 := (bC_ hbx 2).trans rfl
          have b5 := (bC_ h5 0).trans rfl
          obtain ⟨c0', c0f⟩ := hR.cell (comes l1 x.1).f0 r0 r1
          obtain ⟨c1', c1f⟩ := hR.cell (comes l1 x.1).f1 r2 r3
          have hput := aM_ (hR.put (comes l1 x.1).f0 (min (rd hs (comes l1 x.1).f0) (rd hs (comes l1 x.1).f1)))
          have hne : g4 ≠ Be := by have := hR.lt; have := blk_lt he; have := HO.out.lt; omega
          clear hr' hl
          replace r0 := eq_true r0
          replace r1 := eq_true r1
          replace r2 := eq_true r2
          replace r3 := eq_true r3
          have hR' := aM_ hR
          have h5' := aM_ h5
          have he' := aM_ he
          have hB' := aM_ hB
          clear hR h5 he hB hbx
          gi_wp2
          refine startIn_ (n := 16) (S := fun w' => w'.cell? ⟨g5, 0, none⟩ = some (.slice (some ⟨g4, 0, none⟩) l0.length cap4) ∧ w'.cell? ⟨Bx, 0, none⟩ = some (.int .i64 (comes l1 x.1).f0) ∧ w'.cell? ⟨Bx, 1, none⟩ = some (.int .i64 (comes l1 x.1).f1) ∧ w'.cell? ⟨Bx, 2, none⟩ = some (.int .i64 (comes l1 x.1).f2) ∧ w'.cell? ⟨g4, (comes l1 x.1).f0.toNat, none⟩ = some (.int .i64 (rd hs (comes l1 x.1).f0)) ∧ w'.cell? ⟨g4, (comes l1 x.1).f1.toNat, none⟩ = some (.int .i64 (rd hs (comes l1 x.1).f1))) (ds := [15]) #[false, false, false, false, false, false, false, false, false, false, false, false, false, false, false, false] (by kernel_rfl) (by kernel_rfl) rfl rfl ⟨b5, x0, x1, x2, c0', c1'⟩ (fun hHeld => ?_)
          have f0' : W.drew.frozen? ⟨g4, (comes l1 x.1).f0.toNat, none⟩ = false := c0f
          have hput' : As_ (Row w.heap.size (W.drew.setCell ⟨g4, (comes l1 x.1).f0.toNat, none⟩ (.int .i64 (min (rd hs (comes l1 x.1).f0) (rd hs (comes l1 x.1).f1)))) g4 cap4 l0.length _) := ⟨hput.out.step rfl⟩
          have hd0 : ∀ b : Nat, W.drew.heap[b]? = W.heap[b]? := fun _ => rfl
          have hlow := aM_ (below_drew (Below.refl w.heap.size W))
          have hkf := aM_ ((KeepsOthers.drew W).from W7.heap.size)
          have hc0 := c0'
          clear c0f c1f hput
          replace c0' : W.drew.cell? ⟨g4, (comes l1 x.1).f0.toNat, none⟩ = _ := hc0
          clear hc0 x0 x1 x2 b5 c1'
          generalize W.drew = w2 at c0' f0' hput' hd0 hlow hkf hHeld ⊢
          refine take_ (i := 0) (N := (some 37)) (v := ?_) (a' := ?_) #[true, false, false, false, false, false, false, false, false, false, false, false, false, false, false, false] rfl rfl (by kernel_rfl) (fun _ _ _ h => h) (Or.inl ⟨by rfl, ?_⟩) hHeld ?_ ?_
          rotate_left
          · rintro w' ⟨s0, s1, s2, s3, s4, s5⟩
            go_simp
            with_reducible rfl
          rotate_left
          · simp only [Act.put, List.setIfInBounds_toArray, List.set_cons_zero, List.set_cons_succ, i64_w, i32_w]
            rfl
          refine pure_ (i := 1) (N := (some 38)) (v := ?_) (a' := ?_) #[true, true, false, false, false, false, false, false, false, false, false, false, false, false, false, false] rfl rfl (by kernel_rfl) (fun _ _ _ h => h) (Or.inl ⟨by rfl, ?_⟩) ?_ ?_
          rotate_left
          · intro w'
            go_simp
            with_reducible rfl
          rotate_left
          · simp only [Act.put, List.setIfInBounds_toArray, List.set_cons_zero, List.set_cons_succ, i64_w, i32_w]
            rfl
          refine take_ (i := 2) (N := (some 39)) (v := ?_) (a' := ?_) #[true, true, true, false, false, false, false, false, false, false, false, false, false, false, false, false] rfl rfl (by kernel_rfl) (fun _ _ _ h => h) (Or.inl ⟨by rfl, ?_⟩) hHeld ?_ ?_
          rotate_left
          · rintro w' ⟨s0, s1, s2, s3, s4, s5⟩
            go_simp
            with_reducible rfl
          rotate_left
          · simp only [Act.put, List.setIfInBounds_toArray, List.set_cons_zero, List.set_cons_succ, i64_w, i32_w]
            rfl
          refine take_ (i := 3) (N := (some 40)) (v := ?_) (a' := ?_) #[true, true, true, true, false, false, false, false, false, false, false, false, false, false, false, false] rfl rfl (by kernel_rfl) (fun _ _ _ h => h) (Or.inl ⟨by rfl, ?_⟩) hHeld ?_ ?_
          rotate_left
          · rintro w' ⟨s0, s1, s2, s3, s4, s5⟩
            go_simp
            with_reducible rfl
          rotate_left
          · simp only [Act.put, List.setIfInBounds_toArray, List.set_cons_zero, List.set_cons_succ, i64_w, i32_w]
            rfl
          refine pure_ (i := 4) (N := (some 41)) (v := ?_) (a' := ?_) #[true, true, true, true, true, false, false, false, false, false, false, false, false, false, false, false] rfl rfl (by kernel_rfl) (fun _ _ _ h => h) (Or.inl ⟨by rfl, ?_⟩) ?_ ?_
          rotate_left
          · intro w'
            go_simp
            with_reducible rfl
          rotate_left
          · simp only [Act.put, List.setIfInBounds_toArray, List.set_cons_zero, List.set_cons_succ, i64_w, i32_w]
            rfl
          refine take_ (i := 5) (N := (some 42)) (v := ?_) (a' := ?_) #[true, true, true, true, true, true, false, false, false, false, false, false, false, false, false, false] rfl rfl (by kernel_rfl) (fun _ _ _ h => h) (Or.inl ⟨by rfl, ?_⟩) hHeld ?_ ?_
          rotate_left
          · rintro w' ⟨s0, s1, s2, s3, s4, s5⟩
            go_simp
            with_reducible rfl
          rotate_left
          · simp only [Act.put, List.setIfInBounds_toArray, List.set_cons_zero, List.set_cons_succ, i64_w, i32_w]
            rfl
          refine pure_ (i := 6) (N := (some 43)) (v := ?_) (a' := ?_) #[true, true, true, true, true, true, true, false, false, false, false, false, false, false, false, false] rfl rfl (by kernel_rfl) (fun _ _ _ h => h) (Or.inl ⟨by rfl, ?_⟩) ?_ ?_
          rotate_left
          · intro w'
            go_simp
            with_reducible rfl
          rotate_left
          · simp only [Act.put, List.setIfInBounds_toArray, List.set_cons_zero, List.set_cons_succ, i64_w, i32_w]
            rfl
          refine take_ (i := 7) (N := (some 44)) (v := ?_) (a' := ?_) #[true, true, true, true, true, true, true, true, false, false, false, false, false, false, false, false] rfl rfl (by kernel_rfl) (fun _ _ _ h => h) (Or.inl ⟨by rfl, ?_⟩) hHeld ?_ ?_
          rotate_left
          · rintro w' ⟨s0, s1, s2, s3, s4, s5⟩
            go_simp
            with_reducible rfl
          rotate_left
          · simp only [Act.put, List.setIfInBounds_toArray, List.set_cons_zero, List.set_cons_succ, i64_w, i32_w]
            rfl
          refine take_ (i := 8) (N := (some 45)) (v := ?_) (a' := ?_) #[true, true, true, true, true, true, true, true, true, false, false, false, false, false, false, false] rfl rfl (by kernel_rfl) (fun _ _ _ h => h) (Or.inl ⟨by rfl, ?_⟩) hHeld ?_ ?_
          rotate_left
          · rintro w' ⟨s0, s1, s2, s3, s4, s5⟩
            go_simp
            with_reducible rfl
          rotate_left
          · simp only [Act.put, List.setIfInBounds_toArray, List.set_cons_zero, List.set_cons_succ, i64_w, i32_w]
            rfl
          refine pure_ (i := 9) (N := (some 46)) (v := ?_) (a' := ?_) #[true, true, true, true, true, true, true, true, true, true, false, false, false, false, false, false] rfl rfl (by kernel_rfl) (fun _ _ _ h => h) (Or.inl ⟨by rfl, ?_⟩) ?_ ?_
          rotate_left
          · intro w'
            go_simp
            with_reducible rfl
          rotate_left
          · simp only [Act.put, List.setIfInBounds_toArray, List.set_cons_zero, List.set_cons_succ, i64_w, i32_w]
            rfl
          refine take_ (i := 10) (N := (some 47)) (v := ?_) (a' := ?_) #[true, true, true, true, true, true, true, true, true, true, true, false, false, false, false, false] rfl rfl (by kernel_rfl) (fun _ _ _ h => h) (Or.inl ⟨by rfl, ?_⟩) hHeld ?_ ?_
          rotate_left
          · rintro w' ⟨s0, s1, s2, s3, s4, s5⟩
            go_simp
            with_reducible rfl
          rotate_left
          · simp only [Act.put, List.setIfInBounds_toArray, List.set_cons_zero, List.set_cons_succ, i64_w, i32_w]
            rfl
          refine pure_ (i := 11) (N := (some 48)) (v := ?_) (a' := ?_) #[true, true, true, true, true, true, true, true, true, true, true, true, false, false, false, false] rfl rfl (by kernel_rfl) (fun _ _ _ h => h) (Or.inl ⟨by rfl, ?_⟩) ?_ ?_
          rotate_left
          · intro w'
            go_simp
            with_reducible rfl
          rotate_left
          · simp only [Act.put, List.setIfInBounds_toArray, List.set_cons_zero, List.set_cons_succ, i64_w, i32_w]
            rfl
          refine take_ (i := 12) (N := (some 49)) (v := ?_) (a' := ?_) #[true, true, true, true, true, true, true, true, true, true, true, true, true, false, false, false] rfl rfl (by kernel_rfl) (fun _ _ _ h => h) (Or.inl ⟨by rfl, ?_⟩) hHeld ?_ ?_
          rotate_left
          · rintro w' ⟨s0, s1, s2, s3, s4, s5⟩
            go_simp
            with_reducible rfl
          rotate_left
          · simp only [Act.put, List.setIfInBounds_toArray, List.set_cons_zero, List.set_cons_succ, i64_w, i32_w]
            rfl
          refine pure_ (i := 13) (N := (some 50)) (v := ?_) (a' := ?_) #[true, true, true, true, true, true, true, true, true, true, true, true, true, true, false, false] rfl rfl (by kernel_rfl) (fun _ _ _ h => h) (Or.inl ⟨by rfl, ?_⟩) ?_ ?_
          rotate_left
          · intro w'
            go_simp
            with_reducible rfl
          rotate_left
          · simp only [Act.put, List.setIfInBounds_toArray, List.set_cons_zero, List.set_cons_succ, i64_w, i32_w]
            rfl
          refine pure_ (i := 14) (N := (some 51)) (v := ?_) (a' := ?_) #[true, true, true, true, true, true, true, true, true, true, true, true, true, true, true, false] rfl rfl (by kernel_rfl) (fun _ _ _ h => h) (Or.inl ⟨by rfl, ?_⟩) ?_ ?_
          rotate_left
          · intro w'
            go_simp
            with_reducible rfl
          rotate_left
          · simp only [Act.put, List.setIfInBounds_toArray, List.set_cons_zero, List.set_cons_succ, i64_w, i32_w]
            rfl
          refine last_ (i := 15) (N := none) #[true, true, true, true, true, true, true, true, true, true, true, true, true, true, true, true] rfl rfl (by kernel_rfl) (by decide) (fun K hK => ?_)
          refine skip_ (w1 := ?_) (by rfl) rfl ?_ ?_
          rotate_left
          · go_simp
            rfl
          refine hK.out _ _ ?_
          clear hK K
          refine done_ (by kernel_rfl) ?_
          rw [show (if rd hs (comes l1 x.1).f1 < rd hs (comes l1 x.1).f0 then rd hs (comes l1 x.1).f1 else rd hs (comes l1 x.1).f0) = min (rd hs (comes l1 x.1).f0) (rd hs (comes l1 x.1).f1) by rw [Int.min_def]; split <;> split <;> omega]
          refine (show KeepsFrom W7.heap.size W _ ∧ KpB w.heap.size Be W _ ∧ _ from ⟨hkf.out.trans ((KeepsOthers.setCell _ _ _).from _), ⟨hlow.out.setCell (p := ⟨g4, _, none⟩) HN.out _, ?_⟩, ⟨_, ?_, hput'.out⟩, ?_, ?_, ?_⟩)
          · rw [Below.heap_setCell _ _ _ _ hne.symm, hd0]
          · rw [List.map_append, List.foldlM_append, e1]
            show (([x].map fun j : Fin l1.length => comes l1 j.1).foldlM dag_Urge.step hs) = _
            simp only [List.map_cons, List.map_nil, List.foldlM_cons, List.foldlM_nil]
            unfold dag_Urge.step
            rw [if_pos ⟨of_eq_true r0, by rw [hR'.out.1]; exact of_eq_true r1, of_eq_true r2, by rw [hR'.out.1]; exact of_eq_true r3⟩]
            rfl
          · rw [Below.heap_setCell _ _ _ _ hne45.symm, hd0]; exact h5'.out
          · rw [Below.heap_setCell _ _ _ _ hne.symm, hd0]; exact he'.out
          · exact (hB'.out.trans hlow.out).setCell (p := ⟨g4, _, none⟩) HN.out _
        case done =>
          rintro D xs W hD rfl ⟨⟨hs, e1, hR⟩, h5, he, hB⟩ hK
          rw [upto_all, Hf.out] at e1
          obtain rfl := Option.some.inj e1
          have b5 := (bC_ h5 0).trans rfl
          go_wp2
          refine ⟨by simp, .inl ⟨_, _, rfl, run_takeDeferred hK, ?_⟩⟩
          have hne4 : D ≠ g4 := fun e => by
            obtain ⟨cs4, hc4⟩ := hR.cells
            rw [← e, hK] at hc4
            cases hc4
          exact ⟨_, results_tmp rfl _ _ _, _, rfl, Kd.R_mono (Row.step (W1 := W.putObj D (.deferred none)) hR (World.putObj_heap_other (Ne.symm hne4))).2 (fun _ _ => trivial), hB.trans (belowK_b (w := w) (Nat.le_refl _) W D _ _ (by have := HB7.out.size; omega) hK rfl rfl)⟩
        case stop =>
          rintro D c pre W _ _ h _
          exact h.elim
  · rw [if_neg hlen] at h; exact absurd h (by simp)
end
end Go.Proofs.Ytibfkkjkahpobaa.PDag
