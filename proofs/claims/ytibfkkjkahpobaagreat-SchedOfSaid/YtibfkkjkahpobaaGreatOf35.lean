import Derived.Test.YtibfkkjkahpobaaGreatOf34
import Derived.Test.YtibfkkjkahpobaaGreatOf33
import Derived.Test.YtibfkkjkahpobaaGreatOf18
set_option linter.unusedVariables false
set_option linter.unusedSimpArgs false
set_option maxHeartbeats 8000000
set_option maxRecDepth 100000
section
-- the texts that this claim needs, out of this session's and its print's (wip/shrink.py)
namespace Go.Den
open Go Go.RowKit Go.Proofs
theorem take_snoc {α : Type} {xs : List α} {i : Nat} {z : α} (hi : i < xs.length) : xs.take i ++ [xs.getD i z] = xs.take (i + 1) := by
  rw [List.take_add_one, List.getD_eq_getElem?_getD, List.getElem?_eq_getElem hi]; rfl
theorem o30 (xs : List (K.T .str)) (hx : xs.length ≤ 1000000000) : CallStep Tryz.prog 30 [.one (.row 9 .str xs)] [] (.one (.own 0)) [.row 9 .str xs] := by
  refine CallStep.intro' (n := 19) (n0 := 0) (rs := [.tmp 2]) tb_ok Tryz.func30 (by kernel_rfl) rfl rfl rfl rfl rfl fun cx hcx => ?_; refine W.sO tb_ok ?_; refine W.sO tb_ok ?_; refine W.seq ?_; refine W.sO tb_ok ?_; refine W.block (W.loop (fun i : Nat => ⟨[(4, .one (.int .i64 i)), (3, .one (.own 0)), (0, .one (.row 9 .str xs))], [.row 9 .str (xs.take i)], 19⟩) (fun i => xs.length - i) (fun i => i ≤ xs.length) 0 (Nat.zero_le _) (Le.to [1] hcx rfl ⟨rfl, rfl, rfl, rfl, rfl⟩) fun i hi => ?_); refine W.seq ?_; refine W.sO tb_ok ?_; refine W.if_ _ rfl (fun e => W.skip ?_) (fun e => W.exit ?_)
  case refine_2 =>
    refine W.sO tb_ok ?_; have hi2 : i = xs.length := by have := of_decide_eq_false e; omega
    subst hi2; exact W.ret ⟨trivial, [0], rfl, rfl, by show [Blk.row 9 .str (xs.take xs.length)] = _; rw [List.take_length]⟩
  have e : i < xs.length := by have := of_decide_eq_true e; omega
  have hb : rowB 16 ((xs.take i).length + 1) := by rw [List.length_take]; show _ * _ ≤ _; omega
  refine W.seq (W.block ?_); refine W.rO tb_ok ?_; refine W.rO tb_ok ?_; refine ⟨i + 1, e, Le.to [1] hcx rfl ⟨?_, rfl, rfl, ?_, rfl⟩, by omega⟩
  · show S.ren _ (S.one (.int .i64 (IntKind.i64.wrap (↑i + 1)))) = _; rw [IntWalk.i64_in _ (by omega)]; rfl
  · rw [← take_snoc (z := K.zero .str) e]; rfl
theorem o22 (xs : List (K.T kIns)) (hx : xs.length ≤ 1000000000) : CallStep Tryz.prog 22 [.one (.row 24 kIns xs)] [] (.one (.own 0)) [.row 24 kIns xs] := by
  refine CallStep.intro' (n := 19) (n0 := 0) (rs := [.tmp 2]) tb_ok Tryz.func22 (by kernel_rfl) rfl rfl rfl rfl rfl fun cx hcx => ?_; refine W.sO tb_ok ?_; refine W.sO tb_ok ?_; refine W.seq ?_; refine W.sO tb_ok ?_; refine W.block (W.loop (fun i : Nat => ⟨[(4, .one (.int .i64 i)), (3, .one (.own 0)), (0, .one (.row 24 kIns xs))], [.row 24 kIns (xs.take i)], 19⟩) (fun i => xs.length - i) (fun i => i ≤ xs.length) 0 (Nat.zero_le _) (Le.to [1] hcx rfl ⟨rfl, rfl, rfl, rfl, rfl⟩) fun i hi => ?_); refine W.seq ?_; refine W.sO tb_ok ?_; refine W.if_ _ rfl (fun e => W.skip ?_) (fun e => W.exit ?_)
  case refine_2 =>
    refine W.sO tb_ok ?_; have hi2 : i = xs.length := by have := of_decide_eq_false e; omega
    subst hi2; exact W.ret ⟨trivial, [0], rfl, rfl, by show [Blk.row 24 kIns (xs.take xs.length)] = _; rw [List.take_length]⟩
  have e : i < xs.length := by have := of_decide_eq_true e; omega
  have hb : rowB 56 ((xs.take i).length + 1) := by rw [List.length_take]; show _ * _ ≤ _; omega
  refine W.seq (W.block ?_); refine W.rO tb_ok ?_; refine W.rO tb_ok ?_; refine ⟨i + 1, e, Le.to [1] hcx rfl ⟨?_, rfl, rfl, ?_, rfl⟩, by omega⟩
  · show S.ren _ (S.one (.int .i64 (IntKind.i64.wrap (↑i + 1)))) = _; rw [IntWalk.i64_in _ (by omega)]; rfl
  · rw [← take_snoc (z := K.zero kIns) e]; rfl
theorem o7 (b : kBlk.T) (h0 : b.1.length ≤ 1000000000) (h1 : b.2.1.length ≤ 1000000000) : CallStep Tryz.prog 7 [.agg (kBlk.flat b)] [] (.agg (kBlk.flat b)) [] := by
  refine CallStep.intro' (n := 14) (n0 := 0) (rs := [.cell 2 41]) tb_ok Tryz.func7 (by kernel_rfl) rfl rfl rfl rfl rfl fun cx hcx => ?_; refine W.sO tb_ok ?_; refine W.sO tb_ok ?_; have q0_ := o30 b.1 h0; refine W.sO tb_ok ?_; have q0_ := o22 b.2.1 h1; refine W.sO tb_ok ?_; refine W.sO tb_ok ?_; refine W.ret ?_; dsimp; exact ⟨⟨trivial, trivial⟩, [], rfl, rfl, rfl⟩
theorem o29 (xs : List (K.T kBlk)) (hx : xs.length ≤ 1000000000) (hxs : ∀ b ∈ xs, b.1.length ≤ 1000000000 ∧ b.2.1.length ≤ 1000000000) : CallStep Tryz.prog 29 [.one (.row 41 kBlk xs)] [] (.one (.own 0)) [.row 41 kBlk xs] := by
  refine CallStep.intro' (n := 20) (n0 := 0) (rs := [.tmp 2]) tb_ok Tryz.func29 (by kernel_rfl) rfl rfl rfl rfl rfl fun cx hcx => ?_; refine W.sO tb_ok ?_; refine W.sO tb_ok ?_; refine W.seq ?_; refine W.sO tb_ok ?_; refine W.block (W.loop (fun i : Nat => ⟨[(4, .one (.int .i64 i)), (3, .one (.own 0)), (0, .one (.row 41 kBlk xs))], [.row 41 kBlk (xs.take i)], 20⟩) (fun i => xs.length - i) (fun i => i ≤ xs.length) 0 (Nat.zero_le _) (Le.to [1] hcx rfl ⟨rfl, rfl, rfl, rfl, rfl⟩) fun i hi => ?_); refine W.seq ?_; refine W.sO tb_ok ?_; refine W.if_ _ rfl (fun e => W.skip ?_) (fun e => W.exit ?_)
  case refine_2 =>
    refine W.sO tb_ok ?_; have hi2 : i = xs.length := by have := of_decide_eq_false e; omega
    subst hi2; exact W.ret ⟨trivial, [0], rfl, rfl, by show [Blk.row 41 kBlk (xs.take xs.length)] = _; rw [List.take_length]⟩
  have e : i < xs.length := by have := of_decide_eq_true e; omega
  have hb : rowB 104 ((xs.take i).length + 1) := by rw [List.length_take]; show _ * _ ≤ _; omega
  have he := hxs (xs.getD i (K.zero kBlk)) (by rw [List.getD_eq_getElem?_getD, List.getElem?_eq_getElem e]; exact List.getElem_mem e); refine W.seq (W.block ?_); have q0_ := o7 (xs.getD i (K.zero kBlk)) he.1 he.2; refine W.rO tb_ok ?_; refine W.rO tb_ok ?_; refine ⟨i + 1, e, Le.to [1] hcx rfl ⟨?_, rfl, rfl, ?_, rfl⟩, by omega⟩
  · show S.ren _ (S.one (.int .i64 (IntKind.i64.wrap (↑i + 1)))) = _; rw [IntWalk.i64_in _ (by omega)]; rfl
  · rw [← take_snoc (z := K.zero kBlk) e]; rfl
end Go.Den
end
section
-- the texts that this claim needs, out of this session's and its print's (wip/shrink.py)
namespace Go.Den
open Go Go.RowKit Go.Proofs
def atUp (ls : List ByteArray) (s : ByteArray) : Nat → Nat → Int
  | _, 0 => -1
  | i, n + 1 => if ((ls.getD i (K.zero .str)).toList == s.toList) = true then (i : Int) else atUp ls s (i + 1) n
theorem o37 (ls : List ByteArray) (s : ByteArray) : CallStep Tryz.prog 37 [.one (.row 9 .str ls), .one (.str s)] [] (.one (.int .i64 (atUp ls s 0 ls.length))) [] := by
  refine CallStep.intro' (n := 19) (n0 := 0) (rs := [.tmp 4]) tb_ok Tryz.func37 (by kernel_rfl) rfl rfl rfl rfl rfl fun cx hcx => ?_; refine W.sO tb_ok ?_; refine W.seq ?_; refine W.sO tb_ok ?_; refine W.block (W.loop (fun i : Nat => ⟨[(5, .one (.int .i64 i)), (0, .one (.row 9 .str ls)), (1, .one (.str s))], [], 19⟩) (fun i => ls.length - i) (fun i => i ≤ ls.length ∧ atUp ls s 0 ls.length = atUp ls s i (ls.length - i)) 0 ⟨Nat.zero_le _, rfl⟩ (Le.to [] hcx rfl ⟨rfl, rfl, rfl, rfl, rfl⟩) fun i hi => ?_); refine W.rowLen 0 rfl fun hlen => ?_; obtain ⟨hi, hat⟩ := hi; refine W.seq ?_; refine W.sO tb_ok ?_; refine W.if_ _ rfl (fun e => W.skip ?_) (fun e => W.exit ?_)
  · replace e := of_decide_eq_true e; rw [show ls.length - i = (ls.length - (i + 1)) + 1 by omega] at hat; refine W.seq (W.block ?_); refine W.sO tb_ok ?_; refine W.if_ _ rfl (fun h => ?_) (fun h => W.skip ?_)
    · refine W.sO tb_ok ?_; refine W.ret (endL1 (tb := tb) (n0 := 0) ?_ rfl rfl rfl); rw [hat, atUp, if_pos h]; rfl
    · refine W.rO tb_ok ?_; refine ⟨i + 1, ⟨by omega, ?_⟩, Le.to [] hcx rfl ⟨?_, rfl, rfl, rfl, rfl⟩, by omega⟩
      · rw [hat, atUp, if_neg (by rw [h]; exact Bool.false_ne_true)]
      · show S.ren _ (S.one (.int .i64 (IntKind.i64.wrap (↑i + 1)))) = _; rw [IntWalk.i64_in _ (by omega)]; rfl
  · replace e := of_decide_eq_false e; refine W.sO tb_ok ?_; refine W.ret (endL1 (tb := tb) (n0 := 0) ?_ rfl rfl rfl); rw [hat, show ls.length - i = 0 by omega]; rfl
end Go.Den
end
section
-- the texts that this claim needs, out of this session's and its print's (wip/shrink.py)
namespace Go.Den
open Go Go.RowKit Go.Proofs
open Go.Proofs.YtibfkkjkahpobaaGreatW.PrintWords Go.Proofs.YtibfkkjkahpobaaGreat.PDag
theorem bl_data (s : ByteArray) : s.toList = s.data.toList := ByteArray.toList_eq s
theorem labelsOk_le (ls : List ByteArray) (j : Nat) : ∀ n, j ≤ n → labelsOk ls n = true → labelsOk ls j = true
  | 0, h, _ => by rw [show j = 0 by omega]; rfl
  | n + 1, h, he => by
    rcases Nat.eq_or_lt_of_le h with rfl | h
    · exact he
    · refine labelsOk_le ls j n (by omega) ?_; unfold labelsOk at he; simp only [Bool.and_eq_true] at he; exact he.1
theorem atUp_among (ls : List ByteArray) (s : ByteArray) : ∀ (n i : Nat), i + n = ls.length → (0 ≤ atUp ls s i n ↔ ∃ j, i ≤ j ∧ j < ls.length ∧ (ls.getD j (K.zero .str)).toList = s.toList)
  | 0, i, h => by
    refine ⟨fun h1 => ?_, fun ⟨j, h1, h2, _⟩ => by omega⟩
    exact absurd h1 (by show ¬ (0 : Int) ≤ -1; omega)
  | n + 1, i, h => by
    unfold atUp; split
    · rename_i he
      exact ⟨fun _ => ⟨i, Nat.le_refl _, by omega, by simpa using he⟩, fun _ => by omega⟩
    · rename_i he
      rw [atUp_among ls s n (i + 1) (by omega)]; refine ⟨fun ⟨j, h1, h2, h3⟩ => ⟨j, by omega, h2, h3⟩, fun ⟨j, h1, h2, h3⟩ => ⟨j, ?_, h2, h3⟩⟩; rcases Nat.eq_or_lt_of_le h1 with rfl | h1
      · exact absurd (by simpa using h3) he
      · exact h1
theorem at_among (ls : List ByteArray) (s : ByteArray) : decide (atUp ls s 0 ls.length ≥ 0) = among ls s := by
  have h := atUp_among ls s ls.length 0 (by omega); unfold among; rw [Bool.eq_iff_iff, decide_eq_true_iff, List.any_eq_true]; rw [show (atUp ls s 0 ls.length ≥ 0) = (0 ≤ atUp ls s 0 ls.length) from rfl, h]; constructor
  · rintro ⟨j, _, h2, h3⟩; refine ⟨ls.getD j (K.zero .str), by rw [List.getD_eq_getElem?_getD, List.getElem?_eq_getElem h2]; exact List.getElem_mem h2, ?_⟩; rw [bl_data, bl_data] at h3; simpa using h3
  · rintro ⟨t, ht, he⟩; obtain ⟨j, hj, rfl⟩ := List.getElem_of_mem ht; refine ⟨j, Nat.zero_le _, hj, ?_⟩; rw [List.getD_eq_getElem?_getD, List.getElem?_eq_getElem hj, bl_data, bl_data]; simpa using he
theorem blk_eq (l : List S24) (x : S24) (ls : List ByteArray) (hm : mayL l = true) (hlb : labelsOk ls ls.length = true) (h60 : ls.length ≤ 60) (n : Int) (hn : n = if x.f0 = 0 then (l.length : Int) else l.length + 1) :
    (bif decide (n ≤ 200) then (bif (x.f0 == 0 && (x.f1 == 0 && (x.f2 == 0 && (x.f3 == 0 && (x.f4 == 0 && (x.f5.toList == (⟨#[]⟩ : ByteArray).toList && true)))))) then true else bif okI x then endsOp x.f0 else false) else false) = mayBlkL ls l x := by
  have hz : (x.f0 == 0 && (x.f1 == 0 && (x.f2 == 0 && (x.f3 == 0 && (x.f4 == 0 && (x.f5.toList == (⟨#[]⟩ : ByteArray).toList && true)))))) = zeroI x := by
    unfold zeroI; rw [Bool.and_true, show (⟨#[]⟩ : ByteArray).toList = [] by rw [bl_data]]
    cases x.f5.toList <;> rfl
  have h200 := (mayL_parts hm).1; have ha : allPlain l = true := by unfold mayL at hm; simp only [Bool.and_eq_true] at hm; exact hm.2
  rw [hz]; unfold mayBlkL mayBlk; rw [hlb, decide_eq_true h60, ha]
  by_cases h0 : x.f0 = 0
  · rw [if_pos h0] at hn; rw [hn, decide_eq_true (by omega : (l.length : Int) ≤ 200), h0, show endsOp 0 = false from rfl, decide_eq_true h200]
    cases zeroI x <;> cases okI x <;> rfl
  · rw [if_neg h0] at hn; have hzf : zeroI x = false := by unfold zeroI; rw [show (x.f0 == 0) = false by simpa using h0]; rfl
    rw [hzf, hn]; rcases Nat.lt_or_ge 199 l.length with h | h
    · rw [decide_eq_false (by omega : ¬ (l.length : Int) + 1 ≤ 200), show decide (l.length + 1 ≤ 200) = false from decide_eq_false (by omega)]
      cases okI x <;> cases endsOp x.f0 <;> rfl
    · rw [decide_eq_true (by omega : (l.length : Int) + 1 ≤ 200), show decide (l.length + 1 ≤ 200) = true from decide_eq_true (by omega)]
      cases okI x <;> cases endsOp x.f0 <;> rfl
theorem o10 (b : S41) (h1 : b.f1.length ≤ 1000000000) : CallStep Tryz.prog 10 [.agg (kBlk.flat (f41 b))] [] (.one (.bool (mayBlkL b.f0 b.f1 b.f2))) [] := by
  refine CallStep.intro' (n := 74) (n0 := 0) (rs := [.tmp 2]) tb_ok Tryz.func10 (by kernel_rfl) rfl rfl rfl rfl rfl fun cx hcx => ?_; refine W.sO tb_ok ?_; refine W.seq ?_; refine W.sO tb_ok ?_; refine W.block (W.loop (fun i : Nat => ⟨[(1, .one (.ptr 0 0)), (3, .one (.int .i64 i))], [.box 41 (kBlk.flat (f41 b))], 74⟩) (fun i => b.f0.length - i) (fun i => i ≤ b.f0.length ∧ i ≤ 61 ∧ labelsOk b.f0 i = true) 0 ⟨Nat.zero_le _, Nat.zero_le _, rfl⟩ (Le.to [0] hcx rfl ⟨rfl, rfl, rfl, rfl⟩) fun i hi => ?_); obtain ⟨hi, hi61, hlb⟩ := hi; refine W.seq ?_; refine W.sO tb_ok ?_; refine W.if_ _ rfl (fun e => W.skip ?_) (fun e => W.exit ?_)
  · have e0 : i < b.f0.length ∧ i ≤ 60 := by
      cases h : decide ((i : Int) < (b.f0.length : Int)) with
      | false => exact absurd (show (bif decide ((i : Int) < (b.f0.length : Int)) then decide ((i : Int) ≤ 60) else false) = true from e) (by rw [h]; exact Bool.false_ne_true)
      | true =>
        have e : (bif decide ((i : Int) < (b.f0.length : Int)) then decide ((i : Int) ≤ 60) else false) = true := e; rw [h] at e; have h := of_decide_eq_true h; have e := of_decide_eq_true (show decide ((i : Int) ≤ 60) = true from e); omega
    have hil : (i : Int) ≤ (b.f0.length : Int) := by omega
    have hil2 : (i : Int) < (b.f0.length : Int) := by omega
    refine W.seq (W.block ?_); refine W.seqA [20] tb_ok rfl rfl _ (by (repeat' first | dsimp | simp only [castRow_self] | apply And.intro | (refine Exists.intro _ (Exists.intro _ (And.intro (by first | exact CallStep.pure (o36 _) rfl rfl | exact CallStep.rows (o36 _) rfl | exact CallStep.pure (o37 _ _) rfl rfl | exact CallStep.rows (o37 _ _) rfl) ?_))) | (refine Exists.intro _ (And.intro (fun _ => And.intro ?_ (by first | exact CallStep.pure (o36 _) rfl rfl | exact CallStep.pure (o37 _ _) rfl rfl)) ?_))) <;> first | rfl | trivial | assumption | omega | (intros; and_intros <;> first | rfl | trivial | assumption | omega) | (intro h9; rw [h9]; rfl)) ?_
    have hv : (bif !nameOk (b.f0.getD i (K.zero .str)) then true else decide (atUp (b.f0.take i) (b.f0.getD i (K.zero .str)) 0 (b.f0.take i).length ≥ 0)) = !labelsOk b.f0 (i + 1) := by
      rw [at_among]; show (bif !nameOk (b.f0.getD i ByteArray.empty) then true else among (b.f0.take i) (b.f0.getD i ByteArray.empty)) = !(labelsOk b.f0 i && (nameOk (b.f0.getD i ByteArray.empty) && !among (b.f0.take i) (b.f0.getD i ByteArray.empty))); rw [hlb]
      cases nameOk (b.f0.getD i ByteArray.empty) <;> cases among (b.f0.take i) (b.f0.getD i ByteArray.empty) <;> rfl
    refine W.if_ _ rfl (fun h => ?_) (fun h => W.skip ?_)
    · have hf : labelsOk b.f0 (i + 1) = false := by simpa using hv.symm.trans h
      have hm : mayBlkL b.f0 b.f1 b.f2 = false := by
        unfold mayBlkL
        cases h9 : labelsOk b.f0 b.f0.length with
        | false => rfl
        | true => rw [labelsOk_le b.f0 (i + 1) _ (by omega) h9] at hf; cases hf
      refine W.sO tb_ok ?_; refine W.ret (endL1 (tb := tb) (n0 := 0) ?_ rfl rfl rfl); rw [hm]; rfl
    · have hf : labelsOk b.f0 (i + 1) = true := by simpa using hv.symm.trans h
      refine W.rO tb_ok ?_; refine ⟨i + 1, ⟨by omega, by omega, hf⟩, Le.to [0] hcx rfl ⟨rfl, ?_, rfl, rfl⟩, by omega⟩; show S.ren _ (S.one (.int .i64 (IntKind.i64.wrap (↑i + 1)))) = _; rw [IntWalk.i64_in _ (by omega)]; rfl
  · have hend : b.f0.length ≤ 60 → i = b.f0.length := fun h60 => by
      rcases Nat.lt_or_ge i b.f0.length with h | h
      · have e : (bif decide ((i : Int) < (b.f0.length : Int)) then decide ((i : Int) ≤ 60) else false) = false := e; rw [decide_eq_true (by omega : (i : Int) < (b.f0.length : Int))] at e; have e := of_decide_eq_false (show decide ((i : Int) ≤ 60) = false from e); omega
      · omega
    refine W.seq ?_; refine W.seqR tb_ok _ (by (repeat' first | dsimp | simp only [castRow_self] | apply And.intro | (refine Exists.intro _ (Exists.intro _ (And.intro (by first | exact CallStep.pure (o12 _ h1) rfl rfl | exact CallStep.rows (o12 _ h1) rfl) ?_))) | (refine Exists.intro _ (And.intro (fun _ => And.intro ?_ (by first | exact CallStep.pure (o12 _ h1) rfl rfl)) ?_))) <;> first | rfl | trivial | assumption | omega | (intros; and_intros <;> first | rfl | trivial | assumption | omega) | (intro h9; rw [h9]; rfl)) ?_; refine W.if_ _ rfl (fun h => ?_) (fun h => W.skip ?_)
    · have hm : mayBlkL b.f0 b.f1 b.f2 = false := by
        cases h9 : mayBlkL b.f0 b.f1 b.f2 with
        | false => rfl
        | true =>
          have h60 : b.f0.length ≤ 60 := by unfold mayBlkL at h9; simp only [Bool.and_eq_true, decide_eq_true_eq] at h9; exact h9.2.2
          have hb := mayBlkL_some h9; have hp := mayBlk_parts hb
          have hm : mayL b.f1 = true := by
            unfold mayL; unfold mayBlk at hb; simp only [Bool.and_eq_true, decide_eq_true_eq] at hb ⊢; exact ⟨hp.2.1, hb.1⟩
          have h : (bif decide ((b.f0.length : Int) > 60) then true else !mayL b.f1) = true := h; rw [hm, decide_eq_false (by omega : ¬ (b.f0.length : Int) > 60)] at h; cases h
      refine W.sO tb_ok ?_; refine W.ret (endL1 (tb := tb) (n0 := 0) ?_ rfl rfl rfl); rw [hm]; rfl
    · have h : (bif decide ((b.f0.length : Int) > 60) then true else !mayL b.f1) = false := h
      have h60 : b.f0.length ≤ 60 := by
        rcases Nat.lt_or_ge 60 b.f0.length with h9 | h9
        · rw [decide_eq_true (by omega : (b.f0.length : Int) > 60)] at h; cases h
        · exact h9
      rw [decide_eq_false (by omega : ¬ (b.f0.length : Int) > 60)] at h; have hm : mayL b.f1 = true := by simpa using h
      have hall := hend h60; rw [hall] at hlb; have h200 := (mayL_parts hm).1; refine W.sO tb_ok ?_; refine W.seq ?_; refine W.sO tb_ok ?_; refine W.if_ _ rfl (fun h => ?_) (fun h => W.skip ?_)
      · refine W.rO tb_ok ?_; refine W.seqR tb_ok _ (by (repeat' first | dsimp | simp only [castRow_self] | apply And.intro | (refine Exists.intro _ (Exists.intro _ (And.intro (by first | exact CallStep.pure (o38 _) rfl rfl | exact CallStep.rows (o38 _) rfl | exact CallStep.pure (o39 _) rfl rfl | exact CallStep.rows (o39 _) rfl) ?_))) | (refine Exists.intro _ (And.intro (fun _ => And.intro ?_ (by first | exact CallStep.pure (o38 _) rfl rfl | exact CallStep.pure (o39 _) rfl rfl)) ?_))) <;> first | rfl | trivial | assumption | omega | (intros; and_intros <;> first | rfl | trivial | assumption | omega) | (intro h9; rw [h9]; rfl) | (intro h9; simp [h9]; done) | (intro h9; simp only [Bool.and_eq_true, Bool.not_eq_true] at h9; simp [h9.1, h9.2]; done) | (intro h9; (repeat' apply And.intro) <;> first | exact h9 | trivial | rfl | (intro h8; first | rfl | trivial | exact h9 | (rw [h9, h8]; rfl)))) ?_; refine W.ret (endL1 (tb := tb) (n0 := 0) ?_ rfl rfl rfl); have h : (b.f2.f0 != 0) = true := h; exact congrArg (fun r => S.one (C.bool r)) (blk_eq b.f1 b.f2 b.f0 hm hlb h60 _ (by show IntKind.i64.wrap (((b.f1.map f24).length : Int) + 1) = _; rw [List.length_map, IntWalk.i64_in _ (by omega), if_neg (by simpa using h)]))
      · refine W.seqR tb_ok _ (by (repeat' first | dsimp | simp only [castRow_self] | apply And.intro | (refine Exists.intro _ (Exists.intro _ (And.intro (by first | exact CallStep.pure (o38 _) rfl rfl | exact CallStep.rows (o38 _) rfl | exact CallStep.pure (o39 _) rfl rfl | exact CallStep.rows (o39 _) rfl) ?_))) | (refine Exists.intro _ (And.intro (fun _ => And.intro ?_ (by first | exact CallStep.pure (o38 _) rfl rfl | exact CallStep.pure (o39 _) rfl rfl)) ?_))) <;> first | rfl | trivial | assumption | omega | (intros; and_intros <;> first | rfl | trivial | assumption | omega) | (intro h9; rw [h9]; rfl) | (intro h9; simp [h9]; done) | (intro h9; simp only [Bool.and_eq_true, Bool.not_eq_true] at h9; simp [h9.1, h9.2]; done) | (intro h9; (repeat' apply And.intro) <;> first | exact h9 | trivial | rfl | (intro h8; first | rfl | trivial | exact h9 | (rw [h9, h8]; rfl)))) ?_; refine W.ret (endL1 (tb := tb) (n0 := 0) ?_ rfl rfl rfl); have h : (b.f2.f0 != 0) = false := h; exact congrArg (fun r => S.one (C.bool r)) (blk_eq b.f1 b.f2 b.f0 hm hlb h60 _ (by show ((b.f1.map f24).length : Int) = _; rw [List.length_map, if_pos (by simpa using h)]))
end Go.Den
end
section
-- the texts that this claim needs, out of this session's and its print's (wip/shrink.py)
namespace Go.Den
open Go Go.RowKit Go.Proofs Go.Proofs.YtibfkkjkahpobaaGreatW.PrintWords Go.Proofs.YtibfkkjkahpobaaGreat.PDag
theorem eqBs_self (a : List S62) : ∀ n, eqBs a a n = true
  | 0 => rfl
  | n + 1 => by rw [eqBs, eqBs_self a n]; simp [eqB, eqI]
theorem o15 (x : List S62) (hx : x.length ≤ 1000000000) : CallStep Tryz.prog 15 [.one (.row 62 kBun (x.map f62)), .one (.row 62 kBun (x.map f62))] [] (.one (.bool true)) [] := by
  refine CallStep.mk1 ⟨_, _, Tryz.func15, by kernel_rfl, rfl⟩ fun U ρ w vs ha => ?_; obtain ⟨v, v', rfl, hv, hv'⟩ := vs2 ha; obtain ⟨A, c, rfl, b1, b2⟩ := br62.argRow (e := 62) (xs := x) hv; obtain ⟨A', c', rfl, b3, b4⟩ := br62.argRow (e := 62) (xs := x) hv'; refine Calls.mono (r0_EqBundles.calls 0 A c x A' c' x true w b2 b1 b4 b3 (by unfold r0_EqBundles.f; rw [if_pos hx, eqBs_self, decide_eq_true rfl]; rfl)) ?_; rintro e w' ⟨rfl, hB⟩; exact ⟨_, rfl, hB.below, fun U1 hU => rfl⟩
end Go.Den
end
section
-- the texts that this claim needs, out of this session's and its print's (wip/shrink.py)
namespace Go.Den
open Go Go.RowKit Go.Proofs
def badIns : kIns.T := (-9, 0, 0, 0, 0, ⟨#[]⟩, ())
def badBun : kBun.T := (badIns, K.zero kIns, K.zero kIns, K.zero kIns, ())
def badUp (xs : List kBun.T) : Nat → List kBun.T
  | 0 => xs
  | j + 1 => (badUp xs j).set j badBun
theorem badUp_len (xs : List kBun.T) : ∀ j, (badUp xs j).length = xs.length
  | 0 => rfl
  | j + 1 => by rw [badUp, List.length_set, badUp_len xs j]
theorem o18' (xs : List kBun.T) : CallStep Tryz.prog 18 [.one (.own 0)] [.row 62 kBun xs] (.tup []) [.row 62 kBun (badUp xs xs.length)] := by
  refine CallStep.intro' (n := 14) (n0 := 1) (rs := []) tb_ok Tryz.func18 (by kernel_rfl) rfl rfl rfl rfl rfl fun cx hcx => ?_; refine W.sO tb_ok ?_; refine W.block (W.loop (fun j : Nat => ⟨[(0, .one (.own 0)), (2, .one (.int .i64 j))], [.row 62 kBun (badUp xs j)], 14⟩) (fun j => xs.length - j) (fun j => j ≤ xs.length) 0 (Nat.zero_le _) (Le.to [0] hcx rfl ⟨rfl, rfl, rfl, rfl⟩) fun j hj => ?_); refine W.ownLen 0 rfl fun hlen => ?_; simp only [maxLen] at hlen; have hbl := badUp_len xs j; refine W.seq ?_; refine W.sO tb_ok ?_; refine W.if_ _ rfl (fun e => W.skip ?_) (fun e => W.exit ?_)
  · replace e := of_decide_eq_true e; refine W.seq (W.block ?_); refine W.rO tb_ok ?_; refine W.rO tb_ok ?_; refine ⟨j + 1, by omega, Le.to [0] hcx rfl ⟨rfl, ?_, rfl, rfl⟩, by omega⟩; show S.ren _ (S.one (.int .i64 (IntKind.i64.wrap (↑j + 1)))) = _; rw [IntWalk.i64_in _ (by omega)]; rfl
  · replace e := of_decide_eq_false e; obtain rfl : j = xs.length := by omega
    exact ⟨trivial, [0], rfl, rfl, rfl⟩
theorem o18 (h : List Blk) (id : Nat) (x : List kBun.T) (hid : h[id]? = some (Blk.row 62 kBun x)) : ∃ y : List kBun.T, CallStep Tryz.prog 18 [.one (.own id)] h (.tup []) (h.set id (.row 62 kBun y)) := ⟨_, (o18' x).frame hid⟩
end Go.Den
end
section
-- the texts that this claim needs, out of this session's and its print's (wip/shrink.py)
namespace Go.Den
open Go Go.RowKit Go.Proofs
theorem o14 (n : Int) : CallStep Tryz.prog 14 [.one (.int .i64 n)] [] (.one (.int .i64 n)) [] := by
  refine CallStep.intro' (n := 4) (n0 := 0) (rs := [.tmp 2]) tb_ok Tryz.func14 (by kernel_rfl) rfl rfl rfl rfl rfl fun cx hcx => ?_; refine W.seqR tb_ok _ (by (repeat' first | dsimp | apply And.intro) <;> first | rfl | trivial | assumption | omega | (intros; and_intros <;> first | rfl | trivial | assumption | omega)) ?_; refine W.seqR tb_ok _ (by (repeat' first | dsimp | apply And.intro) <;> first | rfl | trivial | assumption | omega | (intros; and_intros <;> first | rfl | trivial | assumption | omega)) ?_; exact W.ret (endL1 (tb := tb) (n0 := 0) rfl rfl rfl rfl)
theorem o16 (xs : List (K.T kI)) : CallStep Tryz.prog 16 [.one (.row 3 kI xs), .one (.row 3 kI xs)] [] (.one (.bool true)) [] := by
  refine CallStep.intro' (n := 26) (n0 := 0) (rs := [.tmp 4]) tb_ok Tryz.func16 (by kernel_rfl) rfl rfl rfl rfl rfl fun cx hcx => ?_; refine W.seqR tb_ok _ (by (repeat' first | dsimp | apply And.intro) <;> first | rfl | trivial | assumption | omega | (intros; and_intros <;> first | rfl | trivial | assumption | omega)) ?_; refine W.seq ?_; refine W.seqR tb_ok _ (by (repeat' first | dsimp | apply And.intro) <;> first | rfl | trivial | assumption | omega | (intros; and_intros <;> first | rfl | trivial | assumption | omega)) ?_; refine W.if_ _ rfl (fun h0 => absurd h0 (by simp)) (fun _ => W.skip ?_); refine W.seq ?_; refine W.seqR tb_ok _ (by (repeat' first | dsimp | apply And.intro) <;> first | rfl | trivial | assumption | omega | (intros; and_intros <;> first | rfl | trivial | assumption | omega)) ?_; refine W.block (W.loop (fun i : Nat => ⟨[(5, .one (.int .i64 i)), (0, .one (.row 3 kI xs)), (1, .one (.row 3 kI xs))], [], 26⟩) (fun i => xs.length - i) (fun i => i ≤ xs.length) 0 (Nat.zero_le _) (Le.to [] hcx rfl ⟨rfl, rfl, rfl, rfl, rfl⟩) fun i hi => ?_); refine W.rowLen 0 rfl fun hlen => ?_; refine W.seq ?_; refine W.seqR tb_ok _ (by (repeat' first | dsimp | apply And.intro) <;> first | rfl | trivial | assumption | omega | (intros; and_intros <;> first | rfl | trivial | assumption | omega)) ?_; refine W.if_ _ rfl (fun e => W.skip ?_) (fun e => W.exit ?_)
  case refine_2 =>
    refine W.seqR tb_ok _ (by (repeat' first | dsimp | apply And.intro) <;> first | rfl | trivial | assumption | omega | (intros; and_intros <;> first | rfl | trivial | assumption | omega)) ?_; exact W.ret (endL1 (tb := tb) (n0 := 0) rfl rfl rfl rfl)
  have e : i < xs.length := by have := of_decide_eq_true e; omega
  refine W.seq (W.block ?_); refine W.seqA [9] tb_ok rfl rfl _ (by (repeat' first | dsimp | apply And.intro) <;> first | rfl | trivial | assumption | omega | (intros; and_intros <;> first | rfl | trivial | assumption | omega)) ?_; refine W.if_ _ rfl (fun h0 => absurd h0 (by simp)) (fun _ => W.skip ?_); refine W.reg tb_ok _ (by (repeat' first | dsimp | apply And.intro) <;> first | rfl | trivial | assumption | omega | (intros; and_intros <;> first | rfl | trivial | assumption | omega)) ?_; refine ⟨i + 1, e, Le.to [] hcx rfl ⟨?_, rfl, rfl, rfl, rfl⟩, by omega⟩; show S.ren [] (S.one (C.int .i64 (IntKind.i64.wrap (↑i + 1)))) = _; rw [IntWalk.i64_in _ (by omega)]; rfl
theorem o48 (xs : List (K.T .str)) : CallStep Tryz.prog 48 [.one (.row 9 .str xs), .one (.row 9 .str xs)] [] (.one (.bool true)) [] := by
  refine CallStep.intro' (n := 26) (n0 := 0) (rs := [.tmp 4]) tb_ok Tryz.func48 (by kernel_rfl) rfl rfl rfl rfl rfl fun cx hcx => ?_; refine W.seqR tb_ok _ (by (repeat' first | dsimp | apply And.intro) <;> first | rfl | trivial | assumption | omega | (intros; and_intros <;> first | rfl | trivial | assumption | omega)) ?_; refine W.seq ?_; refine W.seqR tb_ok _ (by (repeat' first | dsimp | apply And.intro) <;> first | rfl | trivial | assumption | omega | (intros; and_intros <;> first | rfl | trivial | assumption | omega)) ?_; refine W.if_ _ rfl (fun h0 => absurd h0 (by simp)) (fun _ => W.skip ?_); refine W.seq ?_; refine W.seqR tb_ok _ (by (repeat' first | dsimp | apply And.intro) <;> first | rfl | trivial | assumption | omega | (intros; and_intros <;> first | rfl | trivial | assumption | omega)) ?_; refine W.block (W.loop (fun i : Nat => ⟨[(5, .one (.int .i64 i)), (0, .one (.row 9 .str xs)), (1, .one (.row 9 .str xs))], [], 26⟩) (fun i => xs.length - i) (fun i => i ≤ xs.length) 0 (Nat.zero_le _) (Le.to [] hcx rfl ⟨rfl, rfl, rfl, rfl, rfl⟩) fun i hi => ?_); refine W.rowLen 0 rfl fun hlen => ?_; refine W.seq ?_; refine W.seqR tb_ok _ (by (repeat' first | dsimp | apply And.intro) <;> first | rfl | trivial | assumption | omega | (intros; and_intros <;> first | rfl | trivial | assumption | omega)) ?_; refine W.if_ _ rfl (fun e => W.skip ?_) (fun e => W.exit ?_)
  case refine_2 =>
    refine W.seqR tb_ok _ (by (repeat' first | dsimp | apply And.intro) <;> first | rfl | trivial | assumption | omega | (intros; and_intros <;> first | rfl | trivial | assumption | omega)) ?_; exact W.ret (endL1 (tb := tb) (n0 := 0) rfl rfl rfl rfl)
  have e : i < xs.length := by have := of_decide_eq_true e; omega
  refine W.seq (W.block ?_); refine W.seqA [9] tb_ok rfl rfl _ (by (repeat' first | dsimp | apply And.intro) <;> first | rfl | trivial | assumption | omega | (intros; and_intros <;> first | rfl | trivial | assumption | omega)) ?_; refine W.if_ _ rfl (fun h0 => absurd h0 (by simp)) (fun _ => W.skip ?_); refine W.reg tb_ok _ (by (repeat' first | dsimp | apply And.intro) <;> first | rfl | trivial | assumption | omega | (intros; and_intros <;> first | rfl | trivial | assumption | omega)) ?_; refine ⟨i + 1, e, Le.to [] hcx rfl ⟨?_, rfl, rfl, rfl, rfl⟩, by omega⟩; show S.ren [] (S.one (C.int .i64 (IntKind.i64.wrap (↑i + 1)))) = _; rw [IntWalk.i64_in _ (by omega)]; rfl
theorem o26 (xs : List (K.T kIns)) : CallStep Tryz.prog 26 [.one (.row 24 kIns xs), .one (.row 24 kIns xs)] [] (.one (.bool true)) [] := by
  refine CallStep.intro' (n := 26) (n0 := 0) (rs := [.tmp 4]) tb_ok Tryz.func26 (by kernel_rfl) rfl rfl rfl rfl rfl fun cx hcx => ?_; refine W.seqR tb_ok _ (by (repeat' first | dsimp | apply And.intro) <;> first | rfl | trivial | assumption | omega | (intros; and_intros <;> first | rfl | trivial | assumption | omega)) ?_; refine W.seq ?_; refine W.seqR tb_ok _ (by (repeat' first | dsimp | apply And.intro) <;> first | rfl | trivial | assumption | omega | (intros; and_intros <;> first | rfl | trivial | assumption | omega)) ?_; refine W.if_ _ rfl (fun h0 => absurd h0 (by simp)) (fun _ => W.skip ?_); refine W.seq ?_; refine W.seqR tb_ok _ (by (repeat' first | dsimp | apply And.intro) <;> first | rfl | trivial | assumption | omega | (intros; and_intros <;> first | rfl | trivial | assumption | omega)) ?_; refine W.block (W.loop (fun i : Nat => ⟨[(5, .one (.int .i64 i)), (0, .one (.row 24 kIns xs)), (1, .one (.row 24 kIns xs))], [], 26⟩) (fun i => xs.length - i) (fun i => i ≤ xs.length) 0 (Nat.zero_le _) (Le.to [] hcx rfl ⟨rfl, rfl, rfl, rfl, rfl⟩) fun i hi => ?_); refine W.rowLen 0 rfl fun hlen => ?_; refine W.seq ?_; refine W.seqR tb_ok _ (by (repeat' first | dsimp | apply And.intro) <;> first | rfl | trivial | assumption | omega | (intros; and_intros <;> first | rfl | trivial | assumption | omega)) ?_; refine W.if_ _ rfl (fun e => W.skip ?_) (fun e => W.exit ?_)
  case refine_2 =>
    refine W.seqR tb_ok _ (by (repeat' first | dsimp | apply And.intro) <;> first | rfl | trivial | assumption | omega | (intros; and_intros <;> first | rfl | trivial | assumption | omega)) ?_; exact W.ret (endL1 (tb := tb) (n0 := 0) rfl rfl rfl rfl)
  have e : i < xs.length := by have := of_decide_eq_true e; omega
  refine W.seq (W.block ?_); refine W.seqA [9] tb_ok rfl rfl _ (by (repeat' first | dsimp | apply And.intro) <;> first | rfl | trivial | assumption | omega | (intros; and_intros <;> first | rfl | trivial | assumption | omega)) ?_; refine W.if_ _ rfl (fun h0 => absurd h0 (by simp)) (fun _ => W.skip ?_); refine W.reg tb_ok _ (by (repeat' first | dsimp | apply And.intro) <;> first | rfl | trivial | assumption | omega | (intros; and_intros <;> first | rfl | trivial | assumption | omega)) ?_; refine ⟨i + 1, e, Le.to [] hcx rfl ⟨?_, rfl, rfl, rfl, rfl⟩, by omega⟩; show S.ren [] (S.one (C.int .i64 (IntKind.i64.wrap (↑i + 1)))) = _; rw [IntWalk.i64_in _ (by omega)]; rfl
theorem o17 (b : kBlk.T) : CallStep Tryz.prog 17 [.agg (kBlk.flat b), .agg (kBlk.flat b)] [] (.one (.bool true)) [] := by
  refine CallStep.intro' (n := 24) (n0 := 0) (rs := [.tmp 4]) tb_ok Tryz.func17 (by kernel_rfl) rfl rfl rfl rfl rfl fun cx hcx => ?_; refine W.seqR tb_ok _ (by (repeat' first | dsimp | apply And.intro) <;> first | rfl | trivial | assumption | omega | (intros; and_intros <;> first | rfl | trivial | assumption | omega)) ?_; refine W.seqR tb_ok _ (by (repeat' first | dsimp | apply And.intro | (refine Exists.intro _ (Exists.intro _ (And.intro (by first | exact CallStep.pure (o48 _) rfl rfl | exact CallStep.rows (o48 _) rfl | exact CallStep.pure (o26 _) rfl rfl | exact CallStep.rows (o26 _) rfl) ?_))) | (refine Exists.intro _ (And.intro (fun _ => And.intro ?_ (by first | exact CallStep.pure (o48 _) rfl rfl | exact CallStep.pure (o26 _) rfl rfl)) ?_))) <;> first | rfl | trivial | assumption | omega | (intros; and_intros <;> first | rfl | trivial | assumption | omega)) ?_; refine W.ret (endL1 (tb := tb) (n0 := 0) ?_ rfl rfl rfl); simp
end Go.Den
end
section
-- the texts that this claim needs, out of this session's and its print's (wip/shrink.py)
namespace Go.Den
open Go Go.RowKit Go.Proofs
open Go.Proofs.YtibfkkjkahpobaaGreatW.PrintWords Go.Proofs.YtibfkkjkahpobaaGreat.PDag
def wIns : S24 := ⟨23, 1, 0, 0, 5, ⟨#[]⟩⟩
def wEnd : S24 := ⟨33, 0, 0, 0, 0, ⟨#[]⟩⟩
theorem w_may0 : mayBlkL [] [] z24 = true := by kernel_rfl
theorem w_may1 : mayBlkL [] [wIns] wEnd = true := by kernel_rfl
theorem w_x0 : xOf ⟨[], [], z24⟩ = [] := by kernel_rfl
theorem w_x1 : xOf ⟨[], [wIns], wEnd⟩ = [⟨wIns, z24, z24, z24⟩, ⟨wEnd, z24, z24, z24⟩] := by kernel_rfl
theorem o19 : CallStep Tryz.prog 19 [] [] (.one (.bool true)) [] := by
  have h0 := o8 ⟨[], [], z24⟩ (Nat.zero_le _) (Nat.zero_le _); have h1 := o8 ⟨[], [wIns], wEnd⟩ (Nat.zero_le _) (by show 1 ≤ 1000000000; omega); rw [if_pos w_may0, w_x0] at h0; rw [if_pos w_may1, w_x1] at h1; refine CallStep.intro' (n := 52) (n0 := 0) (rs := [.tmp 0]) tb_ok Tryz.func19 (by kernel_rfl) rfl rfl rfl rfl rfl fun cx hcx => ?_; refine W.sO tb_ok ?_; refine W.sO tb_ok ?_; refine W.sO tb_ok ?_; refine W.seqR tb_ok _ (by (repeat' first | dsimp | simp only [castRow_self] | apply And.intro | (refine Exists.intro _ (Exists.intro _ (And.intro (by first | exact CallStep.pure (o14 _) rfl rfl | exact CallStep.rows (o14 _) rfl) ?_))) | (refine Exists.intro _ (And.intro (fun _ => And.intro ?_ (by first | exact CallStep.pure (o14 _) rfl rfl)) ?_))) <;> first | rfl | trivial | assumption | omega | (intros; and_intros <;> first | rfl | trivial | assumption | omega) | (intro h9; rw [h9]; rfl)) ?_; refine W.ret (endL1 (tb := tb) (n0 := 0) ?_ rfl rfl rfl); rfl
end Go.Den
end
section
-- the texts that this claim needs, out of this session's and its print's (wip/shrink.py)
namespace Go.Den
open Go Go.RowKit Go.Proofs
@[reducible] def kItem : K := .pair .str (.pair kIns .unit)
@[reducible] def kVal : K := .pair .str (.pair kI .unit)
@[reducible] def kSym : K := .pair .str (.pair .bool (.pair kI (.pair .bool .unit)))
@[reducible] def kUnit : K := .pair (.row 132 kItem) (.pair (.row 134 kVal) (.pair (.row 136 kSym) (.pair (.row 9 .str) .unit)))
def insUp (lI : List kIns.T) (st : kIns.T → Bool) : Nat → List kIns.T
  | 0 => []
  | i + 1 => if (insUp lI st i).length < 40 ∧ st (lI.getD i (K.zero kIns)) = true then insUp lI st i ++ [lI.getD i (K.zero kIns)] else insUp lI st i
theorem insUp_len (lI : List kIns.T) (st : kIns.T → Bool) : ∀ i, (insUp lI st i).length ≤ 40
  | 0 => Nat.zero_le _
  | i + 1 => by
    unfold insUp; split
    · rename_i h; rw [List.length_append]; have := h.1; show _ + 1 ≤ _; omega
    · exact insUp_len lI st i
theorem insUp_stop (lI : List kIns.T) (st : kIns.T → Bool) {i : Nat} (h : ¬ (insUp lI st i).length < 40) : ∀ d, insUp lI st (i + d) = insUp lI st i
  | 0 => rfl
  | d + 1 => by
    rw [show i + (d + 1) = (i + d) + 1 from rfl, insUp, insUp_stop lI st h d, if_neg fun hx => h hx.1]
theorem mk_step {α β : Type} {A : List β} {E : List α} {f : α → β} {j : Nat} {z : α} (h : j < E.length) : (A ++ (E.take j).map f) ++ [f (E.getD j z)] = A ++ (E.take (j + 1)).map f := by
  rw [← take_snoc (z := z) h, List.map_append, List.append_assoc]; rfl
def endsOf (x : kIns.T) : List kIns.T := [K.zero kIns, x, (33, 0, 0, 0, 0, ⟨#[]⟩, ()), (31, 0, 0, 0, 0, ⟨#[97]⟩, ()), (30, 0, 1, 0, 0, ⟨#[98]⟩, ())]
def blocksF (lI : List kIns.T) (st : kIns.T → Bool) (x : kIns.T) (lB : List kBlk.T) : List kBlk.T := lB.take 12 ++ (endsOf x).map fun e => ([], insUp lI st lI.length, e, ())
theorem o6 (lI : List kIns.T) (x0 x1 x2 x3 x4 : Int) (x5 : ByteArray) (lN : List Int) (lS : List ByteArray) (lU : List kUnit.T) (lB : List kBlk.T) (lC : List kBun.T) (st : kIns.T → Bool)
    (h12 : ∀ a, CallStep Tryz.prog 12 [.one (.row 24 kIns [a])] [] (.one (.bool (st a))) []) (hB : lB.length ≤ 1000000000) (hBs : ∀ b ∈ lB, b.1.length ≤ 1000000000 ∧ b.2.1.length ≤ 1000000000) :
    CallStep Tryz.prog 6 [.agg [.row 24 kIns lI, .int .i64 x0, .int .i64 x1, .int .i64 x2, .int .i64 x3, .int .i64 x4, .str x5, .row 3 kI lN, .row 9 .str lS, .row 122 kUnit lU, .row 41 kBlk lB, .row 62 kBun lC]] [] (.one (.own 0)) [.row 41 kBlk (blocksF lI st (x0, x1, x2, x3, x4, x5, ()) lB)] := by
  refine CallStep.intro' (n := 77) (n0 := 0) (rs := [.tmp 2]) tb_ok Tryz.func6 (by kernel_rfl) rfl rfl rfl rfl rfl fun cx hcx => ?_; refine W.sO tb_ok ?_; have q0_ := o29 lB hB hBs; refine W.sO tb_ok ?_; refine W.seq ?_; refine W.sO tb_ok ?_; refine W.ifJ ⟨[(1, .one (.ptr 0 0)), (3, .one (.own 1))], [.box 37 [.row 24 kIns lI, .int .i64 x0, .int .i64 x1, .int .i64 x2, .int .i64 x3, .int .i64 x4, .str x5, .row 3 kI lN, .row 9 .str lS, .row 122 kUnit lU, .row 41 kBlk lB, .row 62 kBun lC], .row 41 kBlk (lB.take 12)], 77⟩ _ rfl (fun e => ?_) (fun e => W.skip ?_) ?_
  · have e := of_decide_eq_true e; refine W.rO tb_ok ?_; exact Le.to [0, 3] hcx rfl ⟨rfl, rfl, rfl, rfl⟩
  · have e := of_decide_eq_false e; exact Le.to [0, 2] hcx rfl ⟨rfl, rfl, by rw [List.take_of_length_le (by omega)]; rfl, rfl⟩
  refine W.sO tb_ok ?_; refine W.seq ?_; refine W.sO tb_ok ?_; refine W.block (W.loop (fun i : Nat => ⟨[(1, .one (.ptr 0 0)), (3, .one (.own 1)), (4, .one (.ptr 4 0)), (5, .one (.int .i64 i))], [.box 37 [.row 24 kIns lI, .int .i64 x0, .int .i64 x1, .int .i64 x2, .int .i64 x3, .int .i64 x4, .str x5, .row 3 kI lN, .row 9 .str lS, .row 122 kUnit lU, .row 41 kBlk lB, .row 62 kBun lC], .row 41 kBlk (lB.take 12), .row 9 .str [], .row 24 kIns (insUp lI st i), .box 41 [.own 2, .own 3, .int .i64 0, .int .i64 0, .int .i64 0, .int .i64 0, .int .i64 0, .str ⟨#[]⟩]], 77⟩) (fun i => lI.length - i) (fun i => i ≤ lI.length) 0 (Nat.zero_le _) (Le.to [0, 1, 2, 3, 4] hcx rfl ⟨rfl, rfl, rfl, rfl, rfl, rfl⟩) fun i hi => ?_); refine W.seq ?_; refine W.sO tb_ok ?_; refine W.rowLen 21 rfl fun hlen => ?_; refine W.if_ _ rfl (fun e => W.skip ?_) (fun e => W.exit ?_)
  · have e0 : i < lI.length ∧ (insUp lI st i).length < 40 := by
      cases h : decide ((i : Int) < (lI.length : Int)) with
      | false => rw [h] at e; cases e
      | true =>
        rw [h] at e; have h := of_decide_eq_true h; have e := of_decide_eq_true (show decide (((insUp lI st i).length : Int) < 40) = true from e); omega
    have hw : IntKind.i64.wrap (↑i + 1) = ↑i + 1 := IntWalk.i64_in _ (by omega)
    have hs : (lI.take (IntKind.i64.wrap (↑i + 1)).toNat).drop (↑i : Int).toNat = [lI.getD i (K.zero kIns)] := by
      rw [hw, show ((↑i : Int) + 1).toNat = i + 1 by omega, show (↑i : Int).toNat = i from rfl, ← take_snoc (z := K.zero kIns) e0.1, List.drop_append_of_le_length (by rw [List.length_take]; omega), List.drop_of_length_le (by rw [List.length_take]; omega)]; rfl
    have h12i := h12 (lI.getD i (K.zero kIns)); rw [← hs] at h12i; refine W.seq (W.block ?_); refine W.sO tb_ok ?_; have hb : rowB 56 ((insUp lI st i).length + 1) := by show _ * _ ≤ _; omega
    refine W.if_ _ rfl (fun h => ?_) (fun h => W.skip ?_)
    · refine W.bO [9, 1, 1, 1] tb_ok ?_; refine W.rO tb_ok ?_; refine ⟨i + 1, e0.1, Le.to [0, 1, 2, 5, 4] hcx rfl ⟨rfl, rfl, rfl, ?_, ?_, rfl⟩, by omega⟩
      · show S.ren _ (S.one (.int .i64 (IntKind.i64.wrap (↑i + 1)))) = _; rw [hw]; rfl
      · rw [insUp, if_pos ⟨e0.2, h⟩]; rfl
    · refine W.rO tb_ok ?_; refine ⟨i + 1, e0.1, Le.to [0, 1, 2, 3, 4] hcx rfl ⟨rfl, rfl, rfl, ?_, ?_, rfl⟩, by omega⟩
      · show S.ren _ (S.one (.int .i64 (IntKind.i64.wrap (↑i + 1)))) = _; rw [hw]; rfl
      · rw [insUp, if_neg fun hx => by rw [h] at hx; cases hx.2]; rfl
  · have hfin : insUp lI st i = insUp lI st lI.length := by
      rcases Nat.lt_or_ge i lI.length with h | h
      · have h40 : ¬ (insUp lI st i).length < 40 := fun h4 => by
          rw [decide_eq_true (by omega : (i : Int) < (lI.length : Int))] at e; have e := of_decide_eq_false (show decide (((insUp lI st i).length : Int) < 40) = false from e); omega
        have := insUp_stop lI st h40 (lI.length - i); rw [show i + (lI.length - i) = lI.length by omega] at this; exact this.symm
      · rw [show i = lI.length by omega]
    rw [hfin]; refine W.sO tb_ok ?_; refine W.seq ?_; refine W.sO tb_ok ?_
    refine W.block (W.loop (fun j : Nat => match j with
      | 0 => ⟨[(3, .one (.own 0)), (4, .one (.ptr 3 0)), (6, .one (.own 4)), (7, .one (.int .i64 (0 : Nat)))], [.row 41 kBlk (lB.take 12 ++ ((endsOf (x0, x1, x2, x3, x4, x5, ())).take 0).map (fun e => (([], insUp lI st lI.length, e, ()) : kBlk.T))), .row 9 .str [], .row 24 kIns (insUp lI st lI.length), .box 41 [.own 1, .own 2, .int .i64 0, .int .i64 0, .int .i64 0, .int .i64 0, .int .i64 0, .str ⟨#[]⟩], .row 24 kIns (endsOf (x0, x1, x2, x3, x4, x5, ()))], 77⟩
      | j + 1 => ⟨[(3, .one (.own 0)), (4, .one (.ptr 3 0)), (6, .one (.own 4)), (7, .one (.int .i64 (j + 1 : Nat)))], [.row 41 kBlk (lB.take 12 ++ ((endsOf (x0, x1, x2, x3, x4, x5, ())).take (j + 1)).map (fun e => (([], insUp lI st lI.length, e, ()) : kBlk.T))), .frz 9 .str [], .frz 24 kIns (insUp lI st lI.length), .box 41 [.own 1, .own 2, .int .i64 0, .int .i64 0, .int .i64 0, .int .i64 0, .int .i64 0, .str ⟨#[]⟩], .row 24 kIns (endsOf (x0, x1, x2, x3, x4, x5, ()))], 77⟩) (fun j => 5 - j) (fun j => j ≤ 5) 0 (Nat.zero_le _) (Le.to [1, 2, 3, 4, 5] hcx rfl ⟨rfl, rfl, rfl, rfl, ?_, rfl⟩) fun j hj => ?_)
    · rw [List.take_zero, List.map_nil, List.append_nil]; rfl
    have hins := insUp_len lI st lI.length; have h7 := o7 ([], insUp lI st lI.length, K.zero kIns, ()) (Nat.zero_le _) (by show (insUp lI st lI.length).length ≤ 1000000000; omega); have hb : rowB 104 ((lB.take 12 ++ ((endsOf (x0, x1, x2, x3, x4, x5, ())).take j).map (fun e => (([], insUp lI st lI.length, e, ()) : kBlk.T))).length + 1) := by rw [List.length_append, List.length_map, List.length_take, List.length_take]; show _ * _ ≤ _; omega
    have hE : (endsOf (x0, x1, x2, x3, x4, x5, ())).length = 5 := rfl
    cases j with
    | zero =>
      refine W.seq ?_; refine W.sO tb_ok ?_; refine W.if_ _ rfl (fun e => W.skip ?_) (fun e => W.exit ?_)
      · replace e := of_decide_eq_true e; rw [hE] at e; refine W.seq (W.block ?_); refine W.sO tb_ok ?_; refine W.sO tb_ok ?_; refine W.rO tb_ok ?_; refine W.rO tb_ok ?_; refine ⟨1, by omega, Le.to [8, 1, 2, 3, 4] hcx rfl ⟨rfl, rfl, rfl, ?_, ?_, rfl⟩, by omega⟩
        · show S.ren _ (S.one (.int .i64 (IntKind.i64.wrap (((0 : Nat) : Int) + 1)))) = _; rw [IntWalk.i64_in _ (by omega)]; rfl
        · exact congrArg (fun r => [Blk.row 41 kBlk r, Blk.frz 9 .str [], Blk.frz 24 kIns (insUp lI st lI.length), Blk.box 41 [C.own 1, C.own 2, C.int .i64 0, C.int .i64 0, C.int .i64 0, C.int .i64 0, C.int .i64 0, C.str ⟨#[]⟩], Blk.row 24 kIns (endsOf (x0, x1, x2, x3, x4, x5, ()))]) (mk_step (A := lB.take 12) (f := (fun e => (([], insUp lI st lI.length, e, ()) : kBlk.T))) (E := endsOf (x0, x1, x2, x3, x4, x5, ())) (j := 0) (z := K.zero kIns) (by rw [hE]; omega))
      · replace e := of_decide_eq_false e; rw [hE] at e
        exact absurd e (by omega)
    | succ j =>
      refine W.seq ?_; refine W.sO tb_ok ?_; refine W.if_ _ rfl (fun e => W.skip ?_) (fun e => W.exit ?_)
      · replace e := of_decide_eq_true e; rw [hE] at e; refine W.seq (W.block ?_); refine W.sO tb_ok ?_; refine W.sO tb_ok ?_; refine W.rO tb_ok ?_; refine W.rO tb_ok ?_; refine ⟨j + 2, by omega, Le.to [8, 1, 2, 3, 4] hcx rfl ⟨rfl, rfl, rfl, ?_, ?_, rfl⟩, by omega⟩
        · show S.ren _ (S.one (.int .i64 (IntKind.i64.wrap (((j + 1 : Nat) : Int) + 1)))) = _; rw [IntWalk.i64_in _ (by omega)]; rfl
        · exact congrArg (fun r => [Blk.row 41 kBlk r, Blk.frz 9 .str [], Blk.frz 24 kIns (insUp lI st lI.length), Blk.box 41 [C.own 1, C.own 2, C.int .i64 0, C.int .i64 0, C.int .i64 0, C.int .i64 0, C.int .i64 0, C.str ⟨#[]⟩], Blk.row 24 kIns (endsOf (x0, x1, x2, x3, x4, x5, ()))]) (mk_step (A := lB.take 12) (f := (fun e => (([], insUp lI st lI.length, e, ()) : kBlk.T))) (E := endsOf (x0, x1, x2, x3, x4, x5, ())) (j := j + 1) (z := K.zero kIns) (by rw [hE]; omega))
      · replace e := of_decide_eq_false e; rw [hE] at e; obtain rfl : j = 4 := by omega
        refine W.sO tb_ok ?_; exact W.ret ⟨trivial, [0], rfl, rfl, rfl⟩
end Go.Den
end
section
-- the texts that this claim needs, out of this session's and its print's (wip/shrink.py)
namespace Go.Den
open Go Go.RowKit Go.Proofs Go.Proofs.YtibfkkjkahpobaaGreatW.PrintWords Go.Proofs.YtibfkkjkahpobaaGreat.PDag
def f132 (x : S132) : kItem.T := (x.f0, f24 x.f1, ())
def g132 (y : kItem.T) : S132 := ⟨y.1, g24 y.2.1⟩
theorem br132 : Br k132 kItem f132 g132 := Br.iso (Br.pair Br.str (Br.last br24)) (fun x : S132 => (x.f0, x.f1)) (fun y => ⟨y.1, y.2⟩) (fun _ => rfl) (fun _ => rfl)
def f134 (x : S134) : kVal.T := (x.f0, x.f1, ())
def g134 (y : kVal.T) : S134 := ⟨y.1, y.2.1⟩
theorem br134 : Br k134 kVal f134 g134 := Br.iso (Br.pair Br.str (Br.last (Br.int .i64))) (fun x : S134 => (x.f0, x.f1)) (fun y => ⟨y.1, y.2⟩) (fun _ => rfl) (fun _ => rfl)
def f136 (x : S136) : kSym.T := (x.f0, x.f1, x.f2, x.f3, ())
def g136 (y : kSym.T) : S136 := ⟨y.1, y.2.1, y.2.2.1, y.2.2.2.1⟩
theorem br136 : Br k136 kSym f136 g136 := Br.iso (Br.pair Br.str (Br.pair Br.bool (Br.pair (Br.int .i64) (Br.last Br.bool)))) (fun x : S136 => (x.f0, x.f1, x.f2, x.f3)) (fun y => ⟨y.1, y.2.1, y.2.2.1, y.2.2.2⟩) (fun _ => rfl) (fun _ => rfl)
def f122 (x : S122) : kUnit.T := (x.f0.map f132, x.f1.map f134, x.f2.map f136, x.f3, ())
def g122 (y : kUnit.T) : S122 := ⟨y.1.map g132, y.2.1.map g134, y.2.2.1.map g136, y.2.2.2.1⟩
theorem br122 : Br k122 kUnit f122 g122 := Br.iso (Br.pair (Br.slice 132 br132) (Br.pair (Br.slice 134 br134) (Br.pair (Br.slice 136 br136) (Br.last brStrs)))) (fun x : S122 => (x.f0, x.f1, x.f2, x.f3)) (fun y => ⟨y.1, y.2.1, y.2.2.1, y.2.2.2⟩) (fun _ => rfl) (fun _ => rfl)
def askC (lI : List S24) (x : S24) (lN : List Int) (lS : List ByteArray) (lU : List S122) (lB : List S41) (lC : List S62) : List C := [.row 24 kIns (lI.map f24), .int .i64 x.f0, .int .i64 x.f1, .int .i64 x.f2, .int .i64 x.f3, .int .i64 x.f4, .str x.f5, .row 3 kI lN, .row 9 .str lS, .row 122 kUnit (lU.map f122), .row 41 kBlk (lB.map f41), .row 62 kBun (lC.map f62)]
theorem o5 {lI : List S24} {x : S24} {lN : List Int} {lS : List ByteArray} {lU : List S122} {lB : List S41} {lC : List S62} {k : Nat} {r : Bool} (hf : w15_Heavy.f k lI x.f0 x.f1 x.f2 x.f3 x.f4 x.f5 lN lS lU lB lC = some r) : CallStep Tryz.prog 5 [.agg (askC lI x lN lS lU lB lC)] [] (.one (.bool r)) [] := by
  refine CallStep.mk1 ⟨_, _, Tryz.func5, by kernel_rfl, rfl⟩ fun U ρ w vs ha => ?_; obtain ⟨v, rfl, hv⟩ := vs1 ha; obtain ⟨cs, rfl, h1⟩ := hv; obtain ⟨v0, l, e0, a0, h1⟩ := h1.left_cons; obtain ⟨v1, l, rfl, a1, h1⟩ := h1.left_cons; obtain ⟨v2, l, rfl, a2, h1⟩ := h1.left_cons; obtain ⟨v3, l, rfl, a3, h1⟩ := h1.left_cons; obtain ⟨v4, l, rfl, a4, h1⟩ := h1.left_cons; obtain ⟨v5, l, rfl, a5, h1⟩ := h1.left_cons; obtain ⟨v6, l, rfl, a6, h1⟩ := h1.left_cons; obtain ⟨v7, l, rfl, a7, h1⟩ := h1.left_cons; obtain ⟨v8, l, rfl, a8, h1⟩ := h1.left_cons; obtain ⟨v9, l, rfl, a9, h1⟩ := h1.left_cons; obtain ⟨v10, l, rfl, a10, h1⟩ := h1.left_cons; obtain ⟨v11, l, rfl, a11, h1⟩ := h1.left_cons; obtain rfl := h1.left_nil; obtain rfl : cs = #[v0, v1, v2, v3, v4, v5, v6, v7, v8, v9, v10, v11] := Array.toList_inj.1 e0; obtain ⟨A0, c0, rfl, b0, d0⟩ := br24.argRow (e := 24) (xs := lI) a0; obtain rfl : v1 = .int .i64 x.f0 := a1; obtain rfl : v2 = .int .i64 x.f1 := a2; obtain rfl : v3 = .int .i64 x.f2 := a3; obtain rfl : v4 = .int .i64 x.f3 := a4; obtain rfl : v5 = .int .i64 x.f4 := a5; obtain rfl : v6 = .string x.f5 := a6; obtain ⟨A7, c7, rfl, b7, d7⟩ := argInts (xs := lN) a7; obtain ⟨A8, c8, rfl, b8, d8⟩ := argStrs (xs := lS) a8; obtain ⟨A9, c9, rfl, b9, d9⟩ := br122.argRow (e := 122) (xs := lU) a9; obtain ⟨A10, c10, rfl, b10, d10⟩ := br41.argRow (e := 41) (xs := lB) a10; obtain ⟨A11, c11, rfl, b11, d11⟩ := br62.argRow (e := 62) (xs := lC) a11; refine Calls.mono (w15_Heavy.calls k A0 c0 lI _ _ _ _ _ _ A7 c7 lN A8 c8 lS A9 c9 lU A10 c10 lB A11 c11 lC r w d0 b0 d7 b7 d8 b8 d9 b9 d10 b10 d11 b11 hf) ?_; rintro e w' ⟨rfl, hB⟩; exact ⟨_, rfl, hB, fun U1 hU => rfl⟩
end Go.Den
end
section
-- the texts that this claim needs, out of this session's and its print's (wip/shrink.py)
namespace Go.Den
open Go Go.RowKit Go.Proofs Go.Proofs.YtibfkkjkahpobaaGreatW.PrintWords Go.Proofs.YtibfkkjkahpobaaGreat.PDag
theorem light13 (lS : List ByteArray) (lU : List S122) (lB : List S41) (hb : ∀ j : Nat, (J41 lB j).f0.length ≤ 1000000000000000 ∧ (J41 lB j).f1.length ≤ 1000000000000000) (hB : lB.length ≤ 1000000000000000) : ∀ (k : Nat) (n : Int) (i : Nat), 0 ≤ n → n ≤ 4000000000000000 → w13_Heavy.l0 k n i lS lU lB = some false →
    n ≤ 400 ∧ ∀ j : Nat, i ≤ j → j < lB.length → (J41 lB j).f0.length ≤ 400 ∧ (J41 lB j).f1.length ≤ 400
  | 0, n, i, h0, h1, h => by cases h
  | k + 1, n, i, h0, h1, h => by
    unfold w13_Heavy.l0 at h
    by_cases hi : (i : Int) < (lB.length : Int)
    · rw [if_pos hi] at h
      by_cases hn : n < 1048576
      · rw [if_pos hn, if_pos (by omega)] at h; have := hb i; have hw : wrap64 ((i : Int) + 1) = ((i + 1 : Nat) : Int) := by unfold wrap64; omega
        have hv : wrap64 ((wrap64 (n + (((J41 lB (i : Int)).f0).length : Int))) + (((J41 lB (i : Int)).f1).length : Int)) = n + ((J41 lB (i : Int)).f0).length + ((J41 lB (i : Int)).f1).length := by unfold wrap64; omega
        rw [hw, hv] at h; obtain ⟨h2, h3⟩ := light13 lS lU lB hb hB k _ (i + 1) (by omega) (by omega) h; refine ⟨by omega, fun j hj hj2 => ?_⟩; rcases Nat.eq_or_lt_of_le hj with rfl | hj
        · omega
        · exact h3 j hj hj2
      · rw [if_neg hn, if_pos (by omega)] at h; cases h
    · rw [if_neg hi] at h
      by_cases hn : n > 400
      · rw [if_pos hn] at h; cases h
      · exact ⟨by omega, fun j hj hj2 => by omega⟩
theorem light15 {lI : List S24} {x : S24} {lN : List Int} {lS : List ByteArray} {lU : List S122} {lB : List S41} {lC : List S62} {k : Nat} (hB : lB.length ≤ 1000000000000000) (hb : ∀ b ∈ lB, b.f0.length ≤ 1000000000000000 ∧ b.f1.length ≤ 1000000000000000)
    (hf : w15_Heavy.f k lI x.f0 x.f1 x.f2 x.f3 x.f4 x.f5 lN lS lU lB lC = some false) : lB.length ≤ 400 ∧ ∀ b ∈ lB, b.f0.length ≤ 400 ∧ b.f1.length ≤ 400 := by
  unfold w15_Heavy.f at hf; split at hf
  · cases hf
  · obtain ⟨t, _, hf⟩ := Option.bind_eq_some_iff.1 hf; split at hf
    · cases hf
    · obtain ⟨t2, h2, hf⟩ := Option.bind_eq_some_iff.1 hf; obtain rfl := Option.some.inj hf; unfold w13_Heavy.f at h2
      have hb' : ∀ j : Nat, (J41 lB j).f0.length ≤ 1000000000000000 ∧ (J41 lB j).f1.length ≤ 1000000000000000 := fun j => by
        rcases Nat.lt_or_ge j lB.length with h | h
        · have e : J41 lB (j : Int) = lB[j] := by unfold J41; rw [Int.toNat_natCast, List.getD_eq_getElem?_getD, List.getElem?_eq_getElem h]; rfl
          rw [e]; exact hb _ (List.getElem_mem h)
        · have e : J41 lB (j : Int) = z41 := by unfold J41; rw [Int.toNat_natCast, List.getD_eq_getElem?_getD, List.getElem?_eq_none h]; rfl
          rw [e]; exact ⟨Nat.zero_le _, Nat.zero_le _⟩
      obtain ⟨h3, h4⟩ := light13 lS lU lB hb' hB k _ 0 (by omega) (by omega) h2; refine ⟨by omega, fun b hm => ?_⟩; obtain ⟨j, hj, rfl⟩ := List.getElem_of_mem hm; have e : J41 lB (j : Int) = lB[j] := by unfold J41; rw [Int.toNat_natCast, List.getD_eq_getElem?_getD, List.getElem?_eq_getElem hj]; rfl
      rw [← e]; exact h4 j (Nat.zero_le _) hj
end Go.Den
end
section
-- the texts that this claim needs, out of this session's and its print's (wip/shrink.py)
namespace Go.Den
open Go Go.RowKit Go.Proofs
structure Sides where
  e : kBlk.T → Int
  x : kBlk.T → List kBun.T
  f : kBlk.T → Int
  at_ : kBlk.T → List Int
  sl : kBlk.T → List Int
  B : kBlk.T → Bool
  S : kBlk.T → Bool
  want : kBlk.T → List kBun.T
  cyc : kBlk.T → List Int
  pl : kBlk.T → List Int
  mute : kBlk.T → List kBun.T
structure Sides.Ok (s : Sides) (b : kBlk.T) : Prop where
  h7 : CallStep Tryz.prog 7 [.agg (kBlk.flat b)] [] (.agg (kBlk.flat b)) []
  h8 : CallStep Tryz.prog 8 [.agg (kBlk.flat b)] [] (.tup [(false, [.own 0]), (false, [.int .i64 (s.e b)])]) [.row 62 kBun (s.x b)]
  h9 : CallStep Tryz.prog 9 [.one (.row 24 kIns b.2.1)] [] (.tup [(false, [.row 3 kI (s.at_ b)]), (false, [.row 3 kI (s.sl b)]), (false, [.int .i64 (s.f b)])]) []
  h10 : CallStep Tryz.prog 10 [.agg (kBlk.flat b)] [] (.one (.bool (s.B b))) []
  h11 : s.B b = true → CallStep Tryz.prog 11 [.agg (kBlk.flat b)] [] (.one (.row 62 kBun (s.x b))) []
  h12 : CallStep Tryz.prog 12 [.one (.row 24 kIns b.2.1)] [] (.one (.bool (s.S b))) []
  h13 : s.S b = true → CallStep Tryz.prog 13 [.one (.row 24 kIns b.2.1)] [] (.tup [(false, [.row 3 kI (s.at_ b)]), (false, [.row 3 kI (s.sl b)])]) []
  h15 : CallStep Tryz.prog 15 [.one (.row 62 kBun (s.x b)), .one (.row 62 kBun (s.x b))] [] (.one (.bool true)) []
  e_ok : s.e b = if s.B b then 0 else 1
  x_ok : s.B b = false → s.x b = []
  f_ok : s.f b = if s.S b then 0 else 1
  at_ok : s.S b = false → s.at_ b = []
  sl_ok : s.S b = false → s.sl b = []
theorem schedOf_den (lI : List kIns.T) (x0 x1 x2 x3 x4 : Int) (x5 : ByteArray) (lN : List Int) (lS : List ByteArray) (lU : List kUnit.T) (lB : List kBlk.T) (lC : List kBun.T) (cs : List C) (hcs : cs = [.row 24 kIns lI, .int .i64 x0, .int .i64 x1, .int .i64 x2, .int .i64 x3, .int .i64 x4, .str x5, .row 3 kI lN, .row 9 .str lS, .row 122 kUnit lU, .row 41 kBlk lB, .row 62 kBun lC]) (hv : Bool) (bs : List kBlk.T) (s : Sides) (hb : ∀ b ∈ bs, s.Ok b)
    (h5 : CallStep Tryz.prog 5 [.agg cs] [] (.one (.bool hv)) [])
    (h6 : hv = false → CallStep Tryz.prog 6 [.agg cs] [] (.one (.own 0)) [.row 41 kBlk bs])
    (h14 : ∀ n, CallStep Tryz.prog 14 [.one (.int .i64 n)] [] (.one (.int .i64 n)) [])
    (h16 : ∀ x : List Int, CallStep Tryz.prog 16 [.one (.row 3 kI x), .one (.row 3 kI x)] [] (.one (.bool true)) [])
    (h17 : ∀ b : kBlk.T, CallStep Tryz.prog 17 [.agg (kBlk.flat b), .agg (kBlk.flat b)] [] (.one (.bool true)) [])
    (h18 : ∀ h id x, h[id]? = some (Blk.row 62 kBun x) → ∃ y : List kBun.T, CallStep Tryz.prog 18 [.one (.own id)] h (.tup []) (h.set id (.row 62 kBun y)))
    (h19 : CallStep Tryz.prog 19 [] [] (.one (.bool true)) []) :
    CallStep Tryz.prog 3 [.agg cs] [] (.one (.bool true)) [] := by
  subst hcs; refine CallStep.intro' (n := 109) (n0 := 0) (rs := [.tmp 2]) tb_ok Tryz.func3 (by kernel_rfl) rfl rfl rfl rfl rfl fun cx hcx => ?_; refine W.sO tb_ok ?_; refine W.seq ?_; refine W.sO tb_ok ?_; refine W.if_ _ rfl (fun e5 => ?_) (fun e5 => ?_)
  · refine W.sO tb_ok ?_; exact W.ret (endL1 (tb := tb) (n0 := 0) rfl rfl rfl rfl)
  refine W.skip ?_; have q0_ := h6 e5; refine W.sO tb_ok ?_; refine W.seq ?_; refine W.sO tb_ok ?_; refine W.block (W.loop (fun i : Nat => ⟨[(4, .one (.int .i64 i)), (3, .one (.own 0))], [.row 41 kBlk bs], 109⟩) (fun i => bs.length - i) (fun i => i ≤ bs.length) 0 (Nat.zero_le _) (Le.to [1] hcx rfl ⟨rfl, rfl, rfl, rfl⟩) fun i hi => ?_); refine W.ownLen 0 rfl fun hlen => ?_; simp only [maxLen] at hlen; refine W.seq ?_; refine W.sO tb_ok ?_; refine W.if_ _ rfl (fun e9 => W.skip ?_) (fun e9 => W.exit ?_)
  case refine_2 =>
    refine W.sO tb_ok ?_; exact W.ret (endL1 (tb := tb) (n0 := 0) rfl rfl rfl rfl)
  have e9 : i < bs.length := by have := of_decide_eq_true e9; omega
  obtain ⟨h7, h8, h9, h10, h11, h12, h13, h15, e_ok, x_ok, f_ok, at_ok, sl_ok⟩ := hb (bs.getD i kBlk.zero) (by rw [List.getD_eq_getElem?_getD, List.getElem?_eq_getElem e9]; exact List.getElem_mem e9); refine W.seq (W.block ?_); refine W.sO tb_ok ?_
  cases hB : s.B (bs.getD i kBlk.zero) <;> cases hS : s.S (bs.getD i kBlk.zero)
  all_goals
   rw [hB] at h10; rw [hS] at h12
   first | rw [show s.e (bs.getD i kBlk.zero) = 0 from e_ok.trans (by rw [hB]; rfl)] at h8 | rw [show s.e (bs.getD i kBlk.zero) = 1 from e_ok.trans (by rw [hB]; rfl), x_ok hB] at h8
   first | rw [show s.f (bs.getD i kBlk.zero) = 0 from f_ok.trans (by rw [hS]; rfl)] at h9 | rw [show s.f (bs.getD i kBlk.zero) = 1 from f_ok.trans (by rw [hS]; rfl), at_ok hS, sl_ok hS] at h9
   try rw [x_ok hB] at h15
   try replace h11 := h11 hB
   try replace h13 := h13 hS
   refine W.sO tb_ok ?_; refine W.sO tb_ok ?_; refine W.sO tb_ok ?_; refine W.sO tb_ok ?_; refine W.sO tb_ok ?_; refine W.seq ?_; refine W.sO tb_ok ?_
   first
   | (refine W.ifT rfl ?_; refine W.rO tb_ok ?_)
   | (refine W.ifF rfl ?_; refine W.skip ?_)
   refine W.seq ?_; refine W.sO tb_ok ?_
   first
   | (refine W.ifT rfl ?_; refine W.sO tb_ok ?_; refine W.rO tb_ok ?_)
   | (refine W.ifF rfl ?_; refine W.skip ?_)
   refine W.seq ?_; refine W.seqA [37] tb_ok rfl rfl _ (by (repeat' first | dsimp | simp only [castRow_self] | apply And.intro | (refine Exists.intro _ (Exists.intro _ (And.intro (by first | exact CallStep.pure (h14 _) rfl rfl | exact CallStep.rows (h14 _) rfl | exact CallStep.pure (h15) rfl rfl | exact CallStep.rows (h15) rfl | exact CallStep.pure (h16 _) rfl rfl | exact CallStep.rows (h16 _) rfl | exact CallStep.pure (h17 _) rfl rfl | exact CallStep.rows (h17 _) rfl) ?_))) | (refine Exists.intro _ (And.intro (fun _ => And.intro ?_ (by first | exact CallStep.pure (h14 _) rfl rfl | exact CallStep.pure (h15) rfl rfl | exact CallStep.pure (h16 _) rfl rfl | exact CallStep.pure (h17 _) rfl rfl)) ?_))) <;> first | rfl | trivial | assumption | omega | (intros; and_intros <;> first | rfl | trivial | assumption | omega)) ?_; refine W.ifF rfl (W.skip ?_); refine W.seqR tb_ok _ (by (repeat' first | dsimp | simp only [castRow_self] | apply And.intro | (refine Exists.intro _ (Exists.intro _ (And.intro (by first | exact (h18 _ _ _ rfl).choose_spec) ?_)))) <;> first | rfl | trivial | assumption | omega | (intros; and_intros <;> first | rfl | trivial | assumption | omega)) ?_; refine W.seqA [7] tb_ok rfl rfl _ (by (repeat' first | dsimp | simp only [castRow_self] | apply And.intro | (refine Exists.intro _ (Exists.intro _ (And.intro (by first | exact CallStep.pure (h17 _) rfl rfl | exact CallStep.rows (h17 _) rfl) ?_))) | (refine Exists.intro _ (And.intro (fun _ => And.intro ?_ (by first | exact CallStep.pure (h17 _) rfl rfl)) ?_))) <;> first | rfl | trivial | assumption | omega | (intros; and_intros <;> first | rfl | trivial | assumption | omega)) ?_; refine W.ifF rfl (W.skip ?_); refine W.rO tb_ok ?_; refine ⟨i + 1, e9, Le.to [0] hcx rfl ⟨?_, rfl, rfl, rfl⟩, by omega⟩; show S.ren _ (S.one (.int .i64 (IntKind.i64.wrap (↑i + 1)))) = _; rw [IntWalk.i64_in _ (by omega)]; rfl
end Go.Den
end
