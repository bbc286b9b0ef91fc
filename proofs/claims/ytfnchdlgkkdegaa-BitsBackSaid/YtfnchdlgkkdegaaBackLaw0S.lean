-- the texts that this claim needs, out of this session's and its print's (wip/shrink.py)
import Derived.Test.YtfnchdlgkkdegaaBunWalkS
import Derived.Test.YtfnchdlgkkdegaaBackPureS
import Derived.Test.YtfnchdlgkkdegaaPAllx16S
import Derived.Test.YtfnchdlgkkdegaaPAllx1S
set_option linter.unusedVariables false
set_option linter.unusedSimpArgs false
namespace Go.Proofs.Ytfnchdlgkkdegaa.PAll
open Go.RowKit Go.Proofs.YtfnchdlgkkdegaaW.PrintWords Go.Proofs.YtfnchdlgkkdegaaW.PrintLast Go.Proofs.YtfnchdlgkkdegaaW.PrintMore
theorem bword_eq {k : Nat} (hk : 60 ≤ k) (op d a b imm : Int) (s : ByteArray) :
    bits_Word.f k op d a b imm s = some (if insOk op d a b imm s = true then (if s.toList = [] then (wordOf op d a b imm, 0) else (0, 6)) else (0, 1)) := by
  unfold bits_Word.f
  rw [isa_ins_eq (by omega)]
  simp only [Option.bind_some]
  cases h : insOk op d a b imm s with
  | false => simp
  | true =>
    have hop : 0 ≤ op ∧ op ≤ 33 := by
      unfold insOk at h
      simp only [Bool.and_eq_true, decide_eq_true_eq] at h
      exact h.1
    simp only [if_true, pack_eq (show 20 ≤ k by omega) op d a b imm s hop.1 hop.2, Option.bind_some]
    split <;> rfl
def good (x : S35) : Bool := insOk x.f0 x.f1 x.f2 x.f3 x.f4 x.f5 && decide (x.f5.toList = [])
def wordX (x : S35) : Int := wordOf x.f0 x.f1 x.f2 x.f3 x.f4
theorem e0_of {s : ByteArray} (h : s.toList = []) : s = E0 := by
  have h2 := (toList_nil s).1 h
  cases s with
  | mk d =>
    have h3 : d.size = 0 := h2
    unfold E0
    rw [Array.eq_empty_of_size_eq_zero h3]
theorem good_parts {x : S35} (h : good x = true) : x.f5 = E0 ∧ insOk x.f0 x.f1 x.f2 x.f3 x.f4 E0 = true := by
  unfold good at h
  simp only [Bool.and_eq_true, decide_eq_true_eq] at h
  have h5 := e0_of h.2
  refine ⟨h5, ?_⟩
  rw [← h5]
  exact h.1
theorem good_back {x : S35} (h : good x = true) : UW (wordX x) ∧ isWord (wordX x) = true ∧ unwS (wordX x) = x ∧ wordX x / 67108864 = x.f0 := by
  obtain ⟨h5, hi⟩ := good_parts h
  obtain ⟨h0, h1, h2, h3, h4, h6⟩ := back x.f0 x.f1 x.f2 x.f3 x.f4 hi
  have hw := isWord_back x.f0 x.f1 x.f2 x.f3 x.f4 hi
  refine ⟨h0, hw, ?_, h1⟩
  unfold unwS wordX
  rw [if_pos hw, h1, h2, h3, h4, h6]
  cases x
  simp only at h5
  rw [h5]
def eqI (x y : S35) : Bool := x.f0 == y.f0 && (x.f1 == y.f1 && (x.f2 == y.f2 && (x.f3 == y.f3 && (x.f4 == y.f4 && (x.f5.toList == y.f5.toList)))))
theorem eqI_refl (x : S35) : eqI x x = true := by unfold eqI; simp
theorem eq_word {x y : S35} (hx : good x = true) (hy : good y = true) : (wordX y == wordX x) = eqI y x := by
  by_cases h : wordX y = wordX x
  · have h2 : y = x := by rw [← (good_back hy).2.2.1, h, (good_back hx).2.2.1]
    rw [h2, eqI_refl]; simp
  · rw [beq_eq_false_iff_ne.mpr h]
    cases he : eqI y x with
    | false => rfl
    | true =>
      exfalso
      apply h
      unfold eqI at he
      simp only [Bool.and_eq_true, beq_iff_eq] at he
      unfold wordX
      rw [he.1, he.2.1, he.2.2.1, he.2.2.2.1, he.2.2.2.2.1]
theorem word_calls (x : S35) (w : World) : Calls Try.prog 8 #[.agg (insC x).toArray] w fun e w' => e = .returned (.tuple #[.int .u32 (if good x = true then wordX x else 0), .int .i64 (if good x = true then 0 else if insOk x.f0 x.f1 x.f2 x.f3 x.f4 x.f5 = true then 6 else 1)]) ∧ Below w.heap.size w w' := by
  have h := bword_eq (k := 60) (Nat.le_refl _) x.f0 x.f1 x.f2 x.f3 x.f4 x.f5
  have key : (if insOk x.f0 x.f1 x.f2 x.f3 x.f4 x.f5 = true then (if x.f5.toList = [] then (wordOf x.f0 x.f1 x.f2 x.f3 x.f4, (0 : Int)) else (0, 6)) else (0, 1)) = ((if good x = true then wordX x else 0), (if good x = true then 0 else if insOk x.f0 x.f1 x.f2 x.f3 x.f4 x.f5 = true then 6 else 1)) := by
    unfold good wordX
    by_cases h1 : insOk x.f0 x.f1 x.f2 x.f3 x.f4 x.f5 = true <;> by_cases h2 : x.f5.toList = [] <;> simp [h1, h2]
  rw [key] at h
  exact bits_Word.calls 60 x.f0 x.f1 x.f2 x.f3 x.f4 x.f5 _ _ w h
theorem word_bad {x : S35} (h : good x = false) : ((if good x = true then 0 else if insOk x.f0 x.f1 x.f2 x.f3 x.f4 x.f5 = true then 6 else 1 : Int) == 0) = false := by
  rw [h, if_neg (by decide)]
  split <;> rfl
theorem ref_may_eq {k : Nat} (hk : 20 ≤ k) (op s : Int) (h0 : 0 ≤ op) (h1 : op ≤ 33) (s0 : 0 ≤ s) (s1 : s ≤ 3) : r3_May.f k op s = some (mayOp op s) := by
  refine at_rounds (r3_May.mono op s) hk ?_
  have hs : s = 0 ∨ s = 1 ∨ s = 2 ∨ s = 3 := by omega
  rcases hs with rfl | rfl | rfl | rfl
  · exact upto34 (p := fun op => r3_May.f 20 op 0 = some (mayOp op 0)) (by decide +kernel) op h0 h1
  · exact upto34 (p := fun op => r3_May.f 20 op 1 = some (mayOp op 1)) (by decide +kernel) op h0 h1
  · exact upto34 (p := fun op => r3_May.f 20 op 2 = some (mayOp op 2)) (by decide +kernel) op h0 h1
  · exact upto34 (p := fun op => r3_May.f 20 op 3 = some (mayOp op 3)) (by decide +kernel) op h0 h1
def slotL (w : Int) (s : Nat) : List Int := (List.replicate 4 0).set s w
theorem slot_len (w : Int) (s : Nat) : (slotL w s).length = 4 := by simp [slotL]
theorem nop_ok : ∀ j : Fin 4, okW 0 j.val = true := by decide +kernel
theorem slot_uw {w : Int} (hw : UW w) (s : Nat) (hs : s < 4) : ∀ j : Nat, j < 4 → UW (rd (slotL w s) j) := by
  intro j hj
  have h0 : UW 0 := ⟨by omega, by omega⟩
  have : s = 0 ∨ s = 1 ∨ s = 2 ∨ s = 3 := by omega
  have hjj : j = 0 ∨ j = 1 ∨ j = 2 ∨ j = 3 := by omega
  rcases this with rfl | rfl | rfl | rfl <;> rcases hjj with rfl | rfl | rfl | rfl <;> first | exact hw | exact h0
theorem slot_up {w : Int} (s : Nat) (hs : s < 4) : okUp (slotL w s) 4 = okW w s := by
  have n0 : okW 0 0 = true := nop_ok 0
  have n1 : okW 0 1 = true := nop_ok 1
  have n2 : okW 0 2 = true := nop_ok 2
  have n3 : okW 0 3 = true := nop_ok 3
  have : s = 0 ∨ s = 1 ∨ s = 2 ∨ s = 3 := by omega
  rcases this with rfl | rfl | rfl | rfl
  · show (((true && okW w 0) && okW 0 1) && okW 0 2 && okW 0 3) = okW w 0
    rw [n1, n2, n3]; simp
  · show (((true && okW 0 0) && okW w 1) && okW 0 2 && okW 0 3) = okW w 1
    rw [n0, n2, n3]; simp
  · show (((true && okW 0 0) && okW 0 1) && okW w 2 && okW 0 3) = okW w 2
    rw [n0, n1, n3]; simp
  · show (((true && okW 0 0) && okW 0 1) && okW 0 2 && okW w 3) = okW w 3
    rw [n0, n1, n2]; simp
theorem slot_get {w : Int} (s : Nat) (hs : s < 4) (h : okW w s = true) : get52 (bunR (slotL w s)) s = unwS w := by
  unfold bunR
  rw [if_pos (by rw [slot_up s hs]; exact h)]
  have : s = 0 ∨ s = 1 ∨ s = 2 ∨ s = 3 := by omega
  rcases this with rfl | rfl | rfl | rfl <;> rfl
theorem slot_err {w : Int} (s : Nat) (hs : s < 4) : bunE (slotL w s) = if okW w s = true then 0 else 8 := by
  unfold bunE
  rw [slot_up s hs]
theorem good_okW {x : S35} (h : good x = true) (s : Nat) : okW (wordX x) s = mayOp x.f0 s := by
  obtain ⟨_, h1, _, h2⟩ := good_back h
  unfold okW
  rw [h1, h2, Bool.true_and]
theorem run_equal35 (x y : S35) (w : World) : (Op.equal 35 (.agg (insC x).toArray) (.agg (insC y).toArray)).run Try.prog w = .ok (eqI x y) w := (show (Op.equalIn (9998 + 2) 35 (.agg (insC x).toArray) (.agg (insC y).toArray)).run Try.prog w = .ok (eqI x y) w from eqA35 9998 w _ _ _ _ _ _ _ _ _ _ _ _)
theorem run_neq35 (x y : S35) (w : World) : (Go.binOp .neq 35 (.agg (insC x).toArray) (.agg (insC y).toArray)).run Try.prog w = .ok (.bool (!eqI x y)) w := by
  have h2 := run_equal35 x y w
  generalize insC x = X at h2 ⊢
  generalize insC y = Y at h2 ⊢
  simp [Go.binOp, h2, Result.andThen]
theorem run_eql35 (x y : S35) (w : World) : (Go.binOp .eql 35 (.agg (insC x).toArray) (.agg (insC y).toArray)).run Try.prog w = .ok (.bool (eqI x y)) w := by
  have h2 := run_equal35 x y w
  generalize insC x = X at h2 ⊢
  generalize insC y = Y at h2 ⊢
  simp [Go.binOp, h2, Result.andThen]
theorem guard35 (b : BinOp) (hb : b = .eql ∨ b = .neq) (p q : Operand) (X Y : List Value) (w : World) : (eqGuard b 35 p q (.agg X.toArray) (.agg Y.toArray)).run Try.prog w = .ok () w := by
  have hk : Try.prog.eqGuardType Try.prog.depth 35 = false := by kernel_rfl
  rcases hb with rfl | rfl <;> simp [eqGuard, hk, Result.andThen]
section
variable {P : Program} {o : Oper} {a : Act} {W : World} {b : BinOp} {t t2 : TypeId} {x y : Operand} {u v r : Value}
theorem exec_bin (hop : o.op = .binOp b t x y t2) (h1 : a.eval x = u) (h2 : a.eval y = v) (hg : (eqGuard b t x y u v).run P W = .ok () W) (h : (Go.binOp b t u v).run P W = .ok r W) : (execOp a.eval o).run P W = .ok (.value r) W := by
  simp [execOp, hop, h1, h2, hg, h, Result.andThen]
end
theorem load_row {w : World} {ad : Addr} {n : Nat} {xs : List S35} (h : Kd.C k35 w (some ad) n xs) (i : Nat) (hi : i < n) : (Instr.loadAt 35 (.pointer (some (ad.add (i * 6))))).run Try.prog w = .ok (.agg (insC (J35 xs i)).toArray) w := by
  obtain ⟨ad', c, e, hcl, hK, hc⟩ := Kd.C_get h z35 (i : Int) (Int.natCast_nonneg _) (by omega)
  obtain rfl := Option.some.inj e
  rw [Int.toNat_natCast, show k35.sz = 6 from rfl] at hc
  have hb : xs.getD (i : Int).toNat z35 = J35 xs i := rfl
  rw [hb] at hK
  obtain rfl := k35_open hK
  have hl := run_loadCells_list (P := Try.prog) w (ad.add (i * 6)) (insC (J35 xs i)) (fun j v hv => by rw [add_add]; exact hc j v hv)
  obtain ⟨i0, hi0, hz⟩ := Option.map_eq_some_iff.1 info35
  simp only [Prod.mk.injEq] at hz
  have hl2 : (loadCells (ad.add (i * 6)) 6).run Try.prog w = .ok (insC (J35 xs i)).toArray w := hl
  clear hl hc hK
  generalize insC (J35 xs i) = X at hl2 ⊢
  simp [Instr.loadAt, Instr.sureAddr, loadVar, isAgg, sizeOf, typeInfo, run_underlying Try.underlying35, hi0, hz.2.1, hl2, Result.andThen]
theorem R_shape {α : Type} {d : Kd α} {e n0 : Nat} {W : World} {base : Nat} {ok : Nat → Prop} {v : Value} {xs : List α} (h : d.R e W base ok v xs) (hn : ∃ b, v.ownBlock = some b ∧ n0 ≤ b) : ∃ g cap, v = .slice (some ⟨g, 0, none⟩) xs.length cap ∧ n0 ≤ g := by
  obtain ⟨b, hb, hle⟩ := hn
  obtain ⟨inner, ho⟩ := Kd.R_own h
  rcases ho.2 with ⟨rfl, _⟩ | ⟨g, cap, cur, rfl, _⟩
  · simp [Value.ownBlock] at hb
  · have hg : g = b := by simpa [Value.ownBlock] using hb
    subst hg
    exact ⟨g, cap, rfl, hle⟩
theorem rd_map (xs : List S35) (i : Nat) (hi : i < xs.length) : rd (xs.map wordX) i = wordX (J35 xs i) := by
  unfold rd J35
  rw [Int.toNat_natCast, List.getD_eq_getElem?_getD, List.getD_eq_getElem?_getD, List.getElem?_map, List.getElem?_eq_getElem hi]
  rfl
end Go.Proofs.Ytfnchdlgkkdegaa.PAll
