-- the texts that this claim needs, out of this session's and its print's (wip/shrink.py)
import Derived.Test.YtfnchdlgkkdegaaPAllx9T
import Derived.Test.YtfnchdlgkkdegaaPAllx15T
import Derived.Test.YtfnchdlgkkdegaaWordPureT
set_option linter.unusedVariables false
set_option linter.unusedSimpArgs false
namespace Go.Proofs.Ytfnchdlgkkdegaa.PAll
open Go.RowKit Go.Proofs.YtfnchdlgkkdegaaW.PrintWords Go.Proofs.YtfnchdlgkkdegaaW.PrintLast Go.Proofs.YtfnchdlgkkdegaaW.PrintMore
theorem info52 : (Try.prog.info? 52).map (fun i => (i.zero, i.size, i.bytes)) = some (some (.agg #[(.int .i64 0), (.int .i64 0), (.int .i64 0), (.int .i64 0), (.int .i64 0), (.string ⟨#[]⟩), (.int .i64 0), (.int .i64 0), (.int .i64 0), (.int .i64 0), (.int .i64 0), (.string ⟨#[]⟩), (.int .i64 0), (.int .i64 0), (.int .i64 0), (.int .i64 0), (.int .i64 0), (.string ⟨#[]⟩), (.int .i64 0), (.int .i64 0), (.int .i64 0), (.int .i64 0), (.int .i64 0), (.string ⟨#[]⟩)]), 24, 224) := by kernel_rfl
def insC (x : S35) : List Value := [.int .i64 x.f0, .int .i64 x.f1, .int .i64 x.f2, .int .i64 x.f3, .int .i64 x.f4, .string x.f5]
def bunC (b : S52) : List Value := insC b.f0 ++ (insC b.f1 ++ (insC b.f2 ++ insC b.f3))
def put52 (b : S52) (s : Nat) (x : S35) : S52 := match s with
  | 0 => ⟨x, b.f1, b.f2, b.f3⟩
  | 1 => ⟨b.f0, x, b.f2, b.f3⟩
  | 2 => ⟨b.f0, b.f1, x, b.f3⟩
  | _ => ⟨b.f0, b.f1, b.f2, x⟩
def get52 (b : S52) (s : Nat) : S35 := match s with
  | 0 => b.f0
  | 1 => b.f1
  | 2 => b.f2
  | _ => b.f3
theorem ins_one (x : S35) : ∀ q ∈ insC x, q.oneCell' = true := by
  intro q hq
  simp only [insC, List.mem_cons, List.not_mem_nil, or_false] at hq
  rcases hq with rfl | rfl | rfl | rfl | rfl | rfl <;> rfl
theorem bun_one (b : S52) : ∀ q ∈ bunC b, q.oneCell' = true := by
  intro q hq
  simp only [bunC, List.mem_append] at hq
  rcases hq with h | h | h | h <;> exact ins_one _ q h
theorem setCells_grown (W : World) (g o : Nat) (vs : List Value) : W.grownBy (W.setCells g o vs) (some g) := by
  obtain ⟨h1, h2, h3, h4⟩ := setCells_same g vs o W
  exact ⟨h1, h2, h3, by rw [h4]; exact Nat.le_refl _, fun k hk hne => setCells_far vs o k (fun e => hne (by rw [e]))⟩
theorem far_ {W W5 : World} {g o k : Nat} {vs : List Value} {ob : Obj} (hw : W5 = W.setCells g o vs) (h : W.heap[k]? = some ob) (hne : k ≠ g) : W5.heap[k]? = some ob := by
  subst hw
  exact (setCells_far _ _ _ hne).trans h
theorem bset_ {w W W5 : World} {n g o : Nat} {vs : List Value} (hw : W5 = W.setCells g o vs) (hb : Below n w W) (hn : n ≤ W.heap.size) (hg : n ≤ g) : Below n w W5 := by
  subst hw
  exact pw_below_grown hb (some g) hn (setCells_grown _ _ _ _) (fun k_ e_ => by injection e_ with e_; subst e_; exact hg)
theorem at_ {W W5 : World} {g o : Nat} {vs : List Value} {ob : Obj} (hw : W5 = W.setCells g o vs) (h : (W.setCells g o vs).heap[g]? = some ob) : W5.heap[g]? = some ob := by
  subst hw
  exact h
theorem box_cells {W : World} {g o : Nat} {cur : Array Value} {e : TypeId} (h : W.heap[g]? = some (.cells cur e (0, 0))) (vs : List Value) (hl : o + vs.length ≤ cur.size) (h1 : ∀ q ∈ vs, q.oneCell' = true) :
    (W.setCells g o vs).heap[g]? = some (.cells (cur.toList.take o ++ vs ++ cur.toList.drop (o + vs.length)).toArray e (0, 0)) ∧ (storeCells ⟨g, o, none⟩ vs 0).run Try.prog W = .ok () (W.setCells g o vs) := by
  obtain ⟨cur', h2, _, h3⟩ := setCells_row vs o W cur h hl
  refine ⟨by rw [h2, ← h3], ?_⟩
  have hst := run_storeCells_cells (P := Try.prog) g o vs 0 W (fun j hj => by rw [bC_ h]; simp; omega) (fun j _ => bZ_ h _) h1
  simpa using hst
theorem store35 {W : World} {g o : Nat} (x : S35) (hst : (storeCells ⟨g, o, none⟩ (insC x) 0).run Try.prog W = .ok () (W.setCells g o (insC x))) : (Instr.storeAt 35 (.pointer (some ⟨g, o, none⟩)) (.agg (insC x).toArray)).run Try.prog W = .ok () (W.setCells g o (insC x)) := by
  obtain ⟨i0, hi0, hz⟩ := Option.map_eq_some_iff.1 info35
  simp only [Prod.mk.injEq] at hz
  have hl : (insC x).length = 6 := rfl
  generalize insC x = X at hst hl ⊢
  simp [Instr.storeAt, Instr.sureAddr, storeVar, sizeOf, typeInfo, hi0, hz.2.1, hst, Value.cells, hl]
theorem store52 {W : World} {g : Nat} (b : S52) (hst : (storeCells ⟨g, 0, none⟩ (bunC b) 0).run Try.prog W = .ok () (W.setCells g 0 (bunC b))) : (Instr.storeAt 52 (.pointer (some ⟨g, 0, none⟩)) (.agg (bunC b).toArray)).run Try.prog W = .ok () (W.setCells g 0 (bunC b)) := by
  obtain ⟨i0, hi0, hz⟩ := Option.map_eq_some_iff.1 info52
  simp only [Prod.mk.injEq] at hz
  have hl : (bunC b).length = 24 := rfl
  generalize bunC b = X at hst hl ⊢
  simp [Instr.storeAt, Instr.sureAddr, storeVar, sizeOf, typeInfo, hi0, hz.2.1, hst, Value.cells, hl]
theorem box35 {W : World} {g : Nat} {y : S35} (h : W.heap[g]? = some (.cells (insC y).toArray 35 (0, 0))) (x : S35) :
    (W.setCells g 0 (insC x)).heap[g]? = some (.cells (insC x).toArray 35 (0, 0)) ∧ (Instr.storeAt 35 (.pointer (some ⟨g, 0, none⟩)) (.agg (insC x).toArray)).run Try.prog W = .ok () (W.setCells g 0 (insC x)) := by
  obtain ⟨h1, h2⟩ := box_cells h (o := 0) (insC x) (by show 0 + 6 ≤ 6; omega) (ins_one x)
  exact ⟨h1.trans rfl, store35 x h2⟩
theorem box52 {W : World} {g : Nat} {y : S52} (h : W.heap[g]? = some (.cells (bunC y).toArray 52 (0, 0))) (x : S52) :
    (W.setCells g 0 (bunC x)).heap[g]? = some (.cells (bunC x).toArray 52 (0, 0)) ∧ (Instr.storeAt 52 (.pointer (some ⟨g, 0, none⟩)) (.agg (bunC x).toArray)).run Try.prog W = .ok () (W.setCells g 0 (bunC x)) := by
  obtain ⟨h1, h2⟩ := box_cells h (o := 0) (bunC x) (by show 0 + 24 ≤ 24; omega) (bun_one x)
  exact ⟨h1.trans rfl, store52 x h2⟩
theorem box_put {W : World} {g : Nat} {b : S52} (h : W.heap[g]? = some (.cells (bunC b).toArray 52 (0, 0))) (s : Nat) (hs : s < 4) (x : S35) :
    (W.setCells g (s * 6) (insC x)).heap[g]? = some (.cells (bunC (put52 b s x)).toArray 52 (0, 0)) ∧ (Instr.storeAt 35 (.pointer (some ⟨g, s * 6, none⟩)) (.agg (insC x).toArray)).run Try.prog W = .ok () (W.setCells g (s * 6) (insC x)) := by
  obtain ⟨h1, h2⟩ := box_cells h (o := s * 6) (insC x) (by show s * 6 + 6 ≤ 24; omega) (ins_one x)
  refine ⟨h1.trans ?_, store35 x h2⟩
  have : s = 0 ∨ s = 1 ∨ s = 2 ∨ s = 3 := by omega
  rcases this with rfl | rfl | rfl | rfl <;> rfl
theorem load52 {W : World} {g : Nat} {b : S52} (h : W.heap[g]? = some (.cells (bunC b).toArray 52 (0, 0))) : (Instr.loadAt 52 (.pointer (some ⟨g, 0, none⟩))).run Try.prog W = .ok (.agg (bunC b).toArray) W := by
  have hl := run_loadVar_row (P := Try.prog) W g 52 52 (bunC b).toArray (0, 0) _ h Try.underlying52 rfl (by
    obtain ⟨i0, hi0, hz⟩ := Option.map_eq_some_iff.1 info52
    simp only [Prod.mk.injEq] at hz
    rw [hi0, Option.map_some, hz.2.1]; rfl)
  generalize bunC b = X at hl ⊢
  simp [Instr.loadAt, Instr.sureAddr, hl, Result.andThen]
theorem load35 {W : World} {g : Nat} {x : S35} (h : W.heap[g]? = some (.cells (insC x).toArray 35 (0, 0))) : (Instr.loadAt 35 (.pointer (some ⟨g, 0, none⟩))).run Try.prog W = .ok (.agg (insC x).toArray) W := by
  have hl := run_loadVar_row (P := Try.prog) W g 35 35 (insC x).toArray (0, 0) _ h Try.underlying35 rfl (by
    obtain ⟨i0, hi0, hz⟩ := Option.map_eq_some_iff.1 info35
    simp only [Prod.mk.injEq] at hz
    rw [hi0, Option.map_some, hz.2.1]; rfl)
  generalize insC x = X at hl ⊢
  simp [Instr.loadAt, Instr.sureAddr, hl, Result.andThen]
theorem load_slot {W : World} {g : Nat} {b : S52} (h : W.heap[g]? = some (.cells (bunC b).toArray 52 (0, 0))) (s : Nat) (hs : s < 4) : (Instr.loadAt 35 (.pointer (some ⟨g, s * 6, none⟩))).run Try.prog W = .ok (.agg (insC (get52 b s)).toArray) W := by
  have hc : ∀ j v, (insC (get52 b s))[j]? = some v → W.cell? ⟨g, s * 6 + j, none⟩ = some v := by
    intro j v hv
    rw [bC_ h]
    have hj : j < 6 := by
      have h2 := List.getElem?_eq_some_iff.1 hv
      exact h2.1
    rw [List.getElem?_toArray]
    have : s = 0 ∨ s = 1 ∨ s = 2 ∨ s = 3 := by omega
    have hjj : j = 0 ∨ j = 1 ∨ j = 2 ∨ j = 3 ∨ j = 4 ∨ j = 5 := by omega
    rcases this with rfl | rfl | rfl | rfl <;> rcases hjj with rfl | rfl | rfl | rfl | rfl | rfl <;> exact hv
  have hl := run_loadCells_list (P := Try.prog) W ⟨g, s * 6, none⟩ (insC (get52 b s)) (fun j v hv => by
    have e : (⟨g, s * 6, none⟩ : Addr).add j = ⟨g, s * 6 + j, none⟩ := by unfold Addr.add; split <;> simp_all
    rw [e]; exact hc j v hv)
  obtain ⟨i0, hi0, hz⟩ := Option.map_eq_some_iff.1 info35
  simp only [Prod.mk.injEq] at hz
  have hl2 : (loadCells ⟨g, s * 6, none⟩ 6).run Try.prog W = .ok (insC (get52 b s)).toArray W := hl
  clear hl hc
  generalize insC (get52 b s) = X at hl2 ⊢
  simp [Instr.loadAt, Instr.sureAddr, loadVar, isAgg, sizeOf, typeInfo, run_underlying Try.underlying35, hi0, hz.2.1, hl2, Result.andThen]
section
variable {P : Program} {ops : Array Oper} {rest : List Oper} {o : Oper} {a : Act} {Q : Exit → Act → World → Prop}
theorem val_event {W w1 : World} {v : Value} (hgd : o.guard = none) {N : Tmp} (_hd : o.dst = some N) (hrun : (execOp a.eval o).run P W = .ok (.value v) w1)
    (h : wpList P ops Q rest (a.put o.dst v) w1) : wpList P ops Q (o :: rest) a W := Kd.event_run hgd hrun h
end
section
variable {P : Program} {o : Oper} {a : Act} {W w1 : World} {t : TypeId} {p v : Operand} {vv pp : Value}
theorem exec_store (hop : o.op = .store t p v) (h1 : a.eval p = pp) (h2 : a.eval v = vv) (h : (Instr.storeAt t pp vv).run P W = .ok () w1) : (execOp a.eval o).run P W = .ok .skip w1 := by
  simp [execOp, hop, h1, h2, h, Result.andThen]
theorem exec_load (hop : o.op = .load t p) (h1 : a.eval p = pp) (h : (Instr.loadAt t pp).run P W = .ok vv W) : (execOp a.eval o).run P W = .ok (.value vv) W := by
  simp [execOp, hop, h1, h, Result.andThen]
end
def mayOp (op s : Int) : Bool :=
  if op = 0 then true else if op = 14 ∨ op = 15 ∨ op = 16 ∨ op = 17 ∨ op = 20 then s == 3 else if op = 18 ∨ op = 19 ∨ op = 21 then s == 1 else if op = 24 ∨ op = 25 ∨ op = 26 ∨ op = 27 then s == 2
  else if 28 ≤ op then s == 0 else s == 0 || s == 1
theorem may_op_eq {k : Nat} (hk : 10 ≤ k) (op s : Int) (h0 : 0 ≤ op) (h1 : op ≤ 33) (s0 : 0 ≤ s) (s1 : s ≤ 3) : isa_May.f k op s = some (mayOp op s) := by
  refine at_rounds (isa_May.mono op s) hk ?_
  have hs : s = 0 ∨ s = 1 ∨ s = 2 ∨ s = 3 := by omega
  rcases hs with rfl | rfl | rfl | rfl
  · exact upto34 (p := fun op => isa_May.f 10 op 0 = some (mayOp op 0)) (by decide) op h0 h1
  · exact upto34 (p := fun op => isa_May.f 10 op 1 = some (mayOp op 1)) (by decide) op h0 h1
  · exact upto34 (p := fun op => isa_May.f 10 op 2 = some (mayOp op 2)) (by decide) op h0 h1
  · exact upto34 (p := fun op => isa_May.f 10 op 3 = some (mayOp op 3)) (by decide) op h0 h1
def UW (x : Int) : Prop := 0 ≤ x ∧ x < 4294967296
def unwS (w : Int) : S35 := if isWord w = true then ⟨w / 67108864, rawD w, rawA w, rawB w, rawImm w, E0⟩ else z35
def okW (w : Int) (j : Nat) : Bool := isWord w && mayOp (w / 67108864) j
def okUp (l : List Int) : Nat → Bool
  | 0 => true
  | j + 1 => okUp l j && okW (rd l j) j
def upB (l : List Int) : Nat → S52
  | 0 => z52
  | j + 1 => put52 (upB l j) j (unwS (rd l j))
def bunR (l : List Int) : S52 := if okUp l 4 = true then upB l 4 else z52
def bunE (l : List Int) : Int := if okUp l 4 = true then 0 else 8
theorem okUp_not (l : List Int) (j : Nat) (h : okW (rd l j) j = false) : ∀ n, j < n → okUp l n = false
  | n + 1, hn => by
    rw [okUp]
    by_cases e : j = n
    · subst e; rw [h, Bool.and_false]
    · rw [okUp_not l j h n (by omega), Bool.false_and]
theorem isWord_op {w : Int} (h : isWord w = true) : 0 ≤ w / 67108864 ∧ w / 67108864 ≤ 33 := by
  unfold isWord at h
  simp only [Bool.and_eq_true, decide_eq_true_eq] at h
  exact h.1
theorem ins_calls (x : Int) (hx : UW x) (w : World) : Calls Try.prog 12 #[.int .u32 x] w fun e w' => e = .returned (.tuple #[.agg (insC (unwS x)).toArray, .int .i64 (if isWord x = true then 0 else 8)]) ∧ Below w.heap.size w w' := by
  have h := ins_eq (k := 70) (Nat.le_refl _) x hx.1 hx.2
  cases hw : isWord x with
  | true =>
    rw [hw, if_pos rfl] at h
    refine (bits_Ins.calls 70 x _ _ _ _ _ _ _ w h).mono ?_
    rintro e w' ⟨rfl, hb⟩
    exact ⟨by unfold unwS; rw [if_pos hw, if_pos rfl]; rfl, hb⟩
  | false =>
    rw [hw, if_neg (by decide)] at h
    refine (bits_Ins.calls 70 x _ _ _ _ _ _ _ w h).mono ?_
    rintro e w' ⟨rfl, hb⟩
    exact ⟨by unfold unwS; rw [if_neg (by rw [hw]; decide), if_neg (by decide)]; rfl, hb⟩
end Go.Proofs.Ytfnchdlgkkdegaa.PAll
