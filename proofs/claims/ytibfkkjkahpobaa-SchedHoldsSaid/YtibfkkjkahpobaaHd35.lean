import Derived.Test.YtibfkkjkahpobaaHd32
import Derived.Test.YtibfkkjkahpobaaHd31
import Derived.Test.YtibfkkjkahpobaaHd33
import Derived.Test.YtibfkkjkahpobaaHd34
import Derived.Test.YtibfkkjkahpobaaHd15
set_option linter.unusedVariables false
set_option linter.unusedSimpArgs false
set_option maxHeartbeats 8000000
set_option maxRecDepth 100000
section
-- the texts that this claim needs, out of this session's and its print's (wip/shrink.py)
namespace Go.Den
open Go Go.RowKit Go.Proofs
@[reducible] def kItem : K := .pair .str (.pair kIns .unit)
@[reducible] def kVal : K := .pair .str (.pair kI .unit)
@[reducible] def kSym : K := .pair .str (.pair .bool (.pair kI (.pair .bool .unit)))
@[reducible] def kUnit : K := .pair (.row 145 kItem) (.pair (.row 147 kVal) (.pair (.row 149 kSym) (.pair (.row 9 .str) .unit)))
def insUp (lI : List kIns.T) (st : kIns.T → Bool) : Nat → List kIns.T
  | 0 => []
  | i + 1 => if (insUp lI st i).length < 40 ∧ st (lI.getD i (K.zero kIns)) = true then insUp lI st i ++ [lI.getD i (K.zero kIns)] else insUp lI st i
theorem insUp_len (lI : List kIns.T) (st : kIns.T → Bool) : ∀ i, (insUp lI st i).length ≤ 40
  | 0 => Nat.zero_le _
  | i + 1 => by
    unfold insUp; split
    · rename_i h; rw [List.length_append]; have := h.1; show _ + 1 ≤ _; omega
    · exact insUp_len lI st i
theorem insUp_stop (lI : List kIns.T) (st : kIns.T → Bool) {i : Nat} (h : ¬ (insUp lI st i).length < 40) : ∀ d, insUp lI st (i + d) = insUp lI st i
  | 0 => rfl
  | d + 1 => by
    rw [show i + (d + 1) = (i + d) + 1 from rfl, insUp, insUp_stop lI st h d, if_neg fun hx => h hx.1]
theorem mk_step {α β : Type} {A : List β} {E : List α} {f : α → β} {j : Nat} {z : α} (h : j < E.length) : (A ++ (E.take j).map f) ++ [f (E.getD j z)] = A ++ (E.take (j + 1)).map f := by
  rw [← take_snoc (z := z) h, List.map_append, List.append_assoc]; rfl
def endsOf (x : kIns.T) : List kIns.T := [K.zero kIns, x, (33, 0, 0, 0, 0, ⟨#[]⟩, ()), (31, 0, 0, 0, 0, ⟨#[97]⟩, ()), (30, 0, 1, 0, 0, ⟨#[98]⟩, ())]
def blocksF (lI : List kIns.T) (st : kIns.T → Bool) (x : kIns.T) (lB : List kBlk.T) : List kBlk.T := lB.take 12 ++ (endsOf x).map fun e => ([], insUp lI st lI.length, e, ())
theorem o6 (lI : List kIns.T) (x0 x1 x2 x3 x4 : Int) (x5 : ByteArray) (lN : List Int) (lS : List ByteArray) (lU : List kUnit.T) (lB : List kBlk.T) (lC : List kBun.T) (st : kIns.T → Bool)
    (h12 : ∀ a, CallStep Try.prog 32 [.one (.row 24 kIns [a])] [] (.one (.bool (st a))) []) (hB : lB.length ≤ 1000000000) (hBs : ∀ b ∈ lB, b.1.length ≤ 1000000000 ∧ b.2.1.length ≤ 1000000000) :
    CallStep Try.prog 50 [.agg [.row 24 kIns lI, .int .i64 x0, .int .i64 x1, .int .i64 x2, .int .i64 x3, .int .i64 x4, .str x5, .row 3 kI lN, .row 9 .str lS, .row 140 kUnit lU, .row 73 kBlk lB, .row 81 kBun lC]] [] (.one (.own 0)) [.row 73 kBlk (blocksF lI st (x0, x1, x2, x3, x4, x5, ()) lB)] := by
  refine CallStep.intro' (n := 77) (n0 := 0) (rs := [.tmp 2]) tb_ok Try.func50 (by kernel_rfl) rfl rfl rfl rfl rfl fun cx hcx => ?_; refine W.sO tb_ok ?_; have q0_ := o29 lB hB hBs; refine W.sO tb_ok ?_; refine W.seq ?_; refine W.sO tb_ok ?_; refine W.ifJ ⟨[(1, .one (.ptr 0 0)), (3, .one (.own 1))], [.box 67 [.row 24 kIns lI, .int .i64 x0, .int .i64 x1, .int .i64 x2, .int .i64 x3, .int .i64 x4, .str x5, .row 3 kI lN, .row 9 .str lS, .row 140 kUnit lU, .row 73 kBlk lB, .row 81 kBun lC], .row 73 kBlk (lB.take 12)], 77⟩ _ rfl (fun e => ?_) (fun e => W.skip ?_) ?_
  · have e := of_decide_eq_true e; refine W.rO tb_ok ?_; exact Le.to [0, 3] hcx rfl ⟨rfl, rfl, rfl, rfl⟩
  · have e := of_decide_eq_false e; exact Le.to [0, 2] hcx rfl ⟨rfl, rfl, by rw [List.take_of_length_le (by omega)]; rfl, rfl⟩
  refine W.sO tb_ok ?_; refine W.seq ?_; refine W.sO tb_ok ?_; refine W.block (W.loop (fun i : Nat => ⟨[(1, .one (.ptr 0 0)), (3, .one (.own 1)), (4, .one (.ptr 4 0)), (5, .one (.int .i64 i))], [.box 67 [.row 24 kIns lI, .int .i64 x0, .int .i64 x1, .int .i64 x2, .int .i64 x3, .int .i64 x4, .str x5, .row 3 kI lN, .row 9 .str lS, .row 140 kUnit lU, .row 73 kBlk lB, .row 81 kBun lC], .row 73 kBlk (lB.take 12), .row 9 .str [], .row 24 kIns (insUp lI st i), .box 73 [.own 2, .own 3, .int .i64 0, .int .i64 0, .int .i64 0, .int .i64 0, .int .i64 0, .str ⟨#[]⟩]], 77⟩) (fun i => lI.length - i) (fun i => i ≤ lI.length) 0 (Nat.zero_le _) (Le.to [0, 1, 2, 3, 4] hcx rfl ⟨rfl, rfl, rfl, rfl, rfl, rfl⟩) fun i hi => ?_); refine W.seq ?_; refine W.sO tb_ok ?_; refine W.rowLen 21 rfl fun hlen => ?_; refine W.if_ _ rfl (fun e => W.skip ?_) (fun e => W.exit ?_)
  · have e0 : i < lI.length ∧ (insUp lI st i).length < 40 := by
      cases h : decide ((i : Int) < (lI.length : Int)) with
      | false => rw [h] at e; cases e
      | true =>
        rw [h] at e; have h := of_decide_eq_true h; have e := of_decide_eq_true (show decide (((insUp lI st i).length : Int) < 40) = true from e); omega
    have hw : IntKind.i64.wrap (↑i + 1) = ↑i + 1 := IntWalk.i64_in _ (by omega)
    have hs : (lI.take (IntKind.i64.wrap (↑i + 1)).toNat).drop (↑i : Int).toNat = [lI.getD i (K.zero kIns)] := by
      rw [hw, show ((↑i : Int) + 1).toNat = i + 1 by omega, show (↑i : Int).toNat = i from rfl, ← take_snoc (z := K.zero kIns) e0.1, List.drop_append_of_le_length (by rw [List.length_take]; omega), List.drop_of_length_le (by rw [List.length_take]; omega)]; rfl
    have h12i := h12 (lI.getD i (K.zero kIns)); rw [← hs] at h12i; refine W.seq (W.block ?_); refine W.sO tb_ok ?_; have hb : rowB 56 ((insUp lI st i).length + 1) := by show _ * _ ≤ _; omega
    refine W.if_ _ rfl (fun h => ?_) (fun h => W.skip ?_)
    · refine W.bO [9, 1, 1, 1] tb_ok ?_; refine W.rO tb_ok ?_; refine ⟨i + 1, e0.1, Le.to [0, 1, 2, 5, 4] hcx rfl ⟨rfl, rfl, rfl, ?_, ?_, rfl⟩, by omega⟩
      · show S.ren _ (S.one (.int .i64 (IntKind.i64.wrap (↑i + 1)))) = _; rw [hw]; rfl
      · rw [insUp, if_pos ⟨e0.2, h⟩]; rfl
    · refine W.rO tb_ok ?_; refine ⟨i + 1, e0.1, Le.to [0, 1, 2, 3, 4] hcx rfl ⟨rfl, rfl, rfl, ?_, ?_, rfl⟩, by omega⟩
      · show S.ren _ (S.one (.int .i64 (IntKind.i64.wrap (↑i + 1)))) = _; rw [hw]; rfl
      · rw [insUp, if_neg fun hx => by rw [h] at hx; cases hx.2]; rfl
  · have hfin : insUp lI st i = insUp lI st lI.length := by
      rcases Nat.lt_or_ge i lI.length with h | h
      · have h40 : ¬ (insUp lI st i).length < 40 := fun h4 => by
          rw [decide_eq_true (by omega : (i : Int) < (lI.length : Int))] at e; have e := of_decide_eq_false (show decide (((insUp lI st i).length : Int) < 40) = false from e); omega
        have := insUp_stop lI st h40 (lI.length - i); rw [show i + (lI.length - i) = lI.length by omega] at this; exact this.symm
      · rw [show i = lI.length by omega]
    rw [hfin]; refine W.sO tb_ok ?_; refine W.seq ?_; refine W.sO tb_ok ?_
    refine W.block (W.loop (fun j : Nat => match j with
      | 0 => ⟨[(3, .one (.own 0)), (4, .one (.ptr 3 0)), (6, .one (.own 4)), (7, .one (.int .i64 (0 : Nat)))], [.row 73 kBlk (lB.take 12 ++ ((endsOf (x0, x1, x2, x3, x4, x5, ())).take 0).map (fun e => (([], insUp lI st lI.length, e, ()) : kBlk.T))), .row 9 .str [], .row 24 kIns (insUp lI st lI.length), .box 73 [.own 1, .own 2, .int .i64 0, .int .i64 0, .int .i64 0, .int .i64 0, .int .i64 0, .str ⟨#[]⟩], .row 24 kIns (endsOf (x0, x1, x2, x3, x4, x5, ()))], 77⟩
      | j + 1 => ⟨[(3, .one (.own 0)), (4, .one (.ptr 3 0)), (6, .one (.own 4)), (7, .one (.int .i64 (j + 1 : Nat)))], [.row 73 kBlk (lB.take 12 ++ ((endsOf (x0, x1, x2, x3, x4, x5, ())).take (j + 1)).map (fun e => (([], insUp lI st lI.length, e, ()) : kBlk.T))), .frz 9 .str [], .frz 24 kIns (insUp lI st lI.length), .box 73 [.own 1, .own 2, .int .i64 0, .int .i64 0, .int .i64 0, .int .i64 0, .int .i64 0, .str ⟨#[]⟩], .row 24 kIns (endsOf (x0, x1, x2, x3, x4, x5, ()))], 77⟩) (fun j => 5 - j) (fun j => j ≤ 5) 0 (Nat.zero_le _) (Le.to [1, 2, 3, 4, 5] hcx rfl ⟨rfl, rfl, rfl, rfl, ?_, rfl⟩) fun j hj => ?_)
    · rw [List.take_zero, List.map_nil, List.append_nil]; rfl
    have hins := insUp_len lI st lI.length; have h7 := o7 ([], insUp lI st lI.length, K.zero kIns, ()) (Nat.zero_le _) (by show (insUp lI st lI.length).length ≤ 1000000000; omega); have hb : rowB 104 ((lB.take 12 ++ ((endsOf (x0, x1, x2, x3, x4, x5, ())).take j).map (fun e => (([], insUp lI st lI.length, e, ()) : kBlk.T))).length + 1) := by rw [List.length_append, List.length_map, List.length_take, List.length_take]; show _ * _ ≤ _; omega
    have hE : (endsOf (x0, x1, x2, x3, x4, x5, ())).length = 5 := rfl
    cases j with
    | zero =>
      refine W.seq ?_; refine W.sO tb_ok ?_; refine W.if_ _ rfl (fun e => W.skip ?_) (fun e => W.exit ?_)
      · replace e := of_decide_eq_true e; rw [hE] at e; refine W.seq (W.block ?_); refine W.sO tb_ok ?_; refine W.sO tb_ok ?_; refine W.rO tb_ok ?_; refine W.rO tb_ok ?_; refine ⟨1, by omega, Le.to [8, 1, 2, 3, 4] hcx rfl ⟨rfl, rfl, rfl, ?_, ?_, rfl⟩, by omega⟩
        · show S.ren _ (S.one (.int .i64 (IntKind.i64.wrap (((0 : Nat) : Int) + 1)))) = _; rw [IntWalk.i64_in _ (by omega)]; rfl
        · exact congrArg (fun r => [Blk.row 73 kBlk r, Blk.frz 9 .str [], Blk.frz 24 kIns (insUp lI st lI.length), Blk.box 73 [C.own 1, C.own 2, C.int .i64 0, C.int .i64 0, C.int .i64 0, C.int .i64 0, C.int .i64 0, C.str ⟨#[]⟩], Blk.row 24 kIns (endsOf (x0, x1, x2, x3, x4, x5, ()))]) (mk_step (A := lB.take 12) (f := (fun e => (([], insUp lI st lI.length, e, ()) : kBlk.T))) (E := endsOf (x0, x1, x2, x3, x4, x5, ())) (j := 0) (z := K.zero kIns) (by rw [hE]; omega))
      · replace e := of_decide_eq_false e; rw [hE] at e
        exact absurd e (by omega)
    | succ j =>
      refine W.seq ?_; refine W.sO tb_ok ?_; refine W.if_ _ rfl (fun e => W.skip ?_) (fun e => W.exit ?_)
      · replace e := of_decide_eq_true e; rw [hE] at e; refine W.seq (W.block ?_); refine W.sO tb_ok ?_; refine W.sO tb_ok ?_; refine W.rO tb_ok ?_; refine W.rO tb_ok ?_; refine ⟨j + 2, by omega, Le.to [8, 1, 2, 3, 4] hcx rfl ⟨rfl, rfl, rfl, ?_, ?_, rfl⟩, by omega⟩
        · show S.ren _ (S.one (.int .i64 (IntKind.i64.wrap (((j + 1 : Nat) : Int) + 1)))) = _; rw [IntWalk.i64_in _ (by omega)]; rfl
        · exact congrArg (fun r => [Blk.row 73 kBlk r, Blk.frz 9 .str [], Blk.frz 24 kIns (insUp lI st lI.length), Blk.box 73 [C.own 1, C.own 2, C.int .i64 0, C.int .i64 0, C.int .i64 0, C.int .i64 0, C.int .i64 0, C.str ⟨#[]⟩], Blk.row 24 kIns (endsOf (x0, x1, x2, x3, x4, x5, ()))]) (mk_step (A := lB.take 12) (f := (fun e => (([], insUp lI st lI.length, e, ()) : kBlk.T))) (E := endsOf (x0, x1, x2, x3, x4, x5, ())) (j := j + 1) (z := K.zero kIns) (by rw [hE]; omega))
      · replace e := of_decide_eq_false e; rw [hE] at e; obtain rfl : j = 4 := by omega
        refine W.sO tb_ok ?_; exact W.ret ⟨trivial, [0], rfl, rfl, rfl⟩
end Go.Den
end
section
-- the texts that this claim needs, out of this session's and its print's (wip/shrink.py)
namespace Go.Den
open Go Go.RowKit Go.Proofs Go.Proofs.YtibfkkjkahpobaaW.PrintWords Go.Proofs.Ytibfkkjkahpobaa.PDag
def f132 (x : S145) : kItem.T := (x.f0, f24 x.f1, ())
def g132 (y : kItem.T) : S145 := ⟨y.1, g24 y.2.1⟩
theorem br132 : Br k145 kItem f132 g132 := Br.iso (Br.pair Br.str (Br.last br24)) (fun x : S145 => (x.f0, x.f1)) (fun y => ⟨y.1, y.2⟩) (fun _ => rfl) (fun _ => rfl)
def f134 (x : S147) : kVal.T := (x.f0, x.f1, ())
def g134 (y : kVal.T) : S147 := ⟨y.1, y.2.1⟩
theorem br134 : Br k147 kVal f134 g134 := Br.iso (Br.pair Br.str (Br.last (Br.int .i64))) (fun x : S147 => (x.f0, x.f1)) (fun y => ⟨y.1, y.2⟩) (fun _ => rfl) (fun _ => rfl)
def f136 (x : S149) : kSym.T := (x.f0, x.f1, x.f2, x.f3, ())
def g136 (y : kSym.T) : S149 := ⟨y.1, y.2.1, y.2.2.1, y.2.2.2.1⟩
theorem br136 : Br k149 kSym f136 g136 := Br.iso (Br.pair Br.str (Br.pair Br.bool (Br.pair (Br.int .i64) (Br.last Br.bool)))) (fun x : S149 => (x.f0, x.f1, x.f2, x.f3)) (fun y => ⟨y.1, y.2.1, y.2.2.1, y.2.2.2⟩) (fun _ => rfl) (fun _ => rfl)
def f122 (x : S140) : kUnit.T := (x.f0.map f132, x.f1.map f134, x.f2.map f136, x.f3, ())
def g122 (y : kUnit.T) : S140 := ⟨y.1.map g132, y.2.1.map g134, y.2.2.1.map g136, y.2.2.2.1⟩
theorem br122 : Br k140 kUnit f122 g122 := Br.iso (Br.pair (Br.slice 145 br132) (Br.pair (Br.slice 147 br134) (Br.pair (Br.slice 149 br136) (Br.last brStrs)))) (fun x : S140 => (x.f0, x.f1, x.f2, x.f3)) (fun y => ⟨y.1, y.2.1, y.2.2.1, y.2.2.2⟩) (fun _ => rfl) (fun _ => rfl)
def askC (lI : List S24) (x : S24) (lN : List Int) (lS : List ByteArray) (lU : List S140) (lB : List S73) (lC : List S81) : List C := [.row 24 kIns (lI.map f24), .int .i64 x.f0, .int .i64 x.f1, .int .i64 x.f2, .int .i64 x.f3, .int .i64 x.f4, .str x.f5, .row 3 kI lN, .row 9 .str lS, .row 140 kUnit (lU.map f122), .row 73 kBlk (lB.map f41), .row 81 kBun (lC.map f62)]
def sumUp {α : Type} (g : Int → α → Int) : Int → List α → Int
  | n, [] => n
  | n, x :: xs => if n < 1048576 then sumUp g (g n x) xs else n
section
variable {α : Type} {g : Int → α → Int} {i : Nat} {n : Int} {xs : List α}
theorem sum_cond {b : Bool} (e : (bif decide ((i : Int) < (xs.length : Int)) then decide (n < 1048576) else false) = b) : decide (i < xs.length ∧ n < 1048576) = b := by
  rw [← e]; by_cases h1 : i < xs.length <;> by_cases h2 : n < 1048576 <;> simp [h1, h2]
theorem sum_out (e : (bif decide ((i : Int) < (xs.length : Int)) then decide (n < 1048576) else false) = false) : sumUp g n (xs.drop i) = n := by
  have h := of_decide_eq_false (sum_cond e)
  cases hd : xs.drop i with
  | nil => rfl
  | cons y ys =>
    have : i < xs.length := Nat.lt_of_not_le fun h => by rw [List.drop_of_length_le h] at hd; cases hd
    rw [sumUp, if_neg fun h2 => h ⟨this, h2⟩]
theorem sum_in (z : α) (h1 : i < xs.length) (h2 : n < 1048576) : sumUp g n (xs.drop i) = sumUp g (g n (xs.getD i z)) (xs.drop (i + 1)) := by
  rw [List.drop_eq_getElem_cons h1, sumUp, if_pos h2, List.getD_eq_getElem?_getD, List.getElem?_eq_getElem h1]; rfl
end
@[reducible] def w64 (n : Int) : Int := IntKind.i64.wrap n
def gTxt (n : Int) (s : ByteArray) : Int := w64 (n + s.size)
def txtW (l : List ByteArray) : Int := sumUp gTxt l.length l
def gIns (n : Int) (x : kIns.T) : Int := w64 (n + w64 (Int.tdiv x.2.2.2.2.2.1.size 8))
def insW (l : List kIns.T) : Int := sumUp gIns l.length l
def gItem (n : Int) (x : kItem.T) : Int := w64 (n + w64 (Int.tdiv (w64 (x.1.size + x.2.1.2.2.2.2.2.1.size)) 8))
def gVal (n : Int) (x : kVal.T) : Int := w64 (n + w64 (Int.tdiv x.1.size 8))
def gSym (n : Int) (x : kSym.T) : Int := w64 (n + w64 (Int.tdiv x.1.size 8))
def unitW (u : kUnit.T) : Int := sumUp gSym (sumUp gVal (sumUp gItem (w64 (w64 (w64 (w64 (u.1.length + u.2.1.length) + u.2.2.1.length) + u.2.2.2.1.length) + w64 (Int.tdiv (txtW u.2.2.2.1) 8))) u.1) u.2.1) u.2.2.1
def gUnit (n : Int) (u : kUnit.T) : Int := w64 (n + unitW u)
def heavy12 (lS : List ByteArray) (lU : List kUnit.T) : Bool := decide (sumUp gUnit (w64 (lU.length + w64 (Int.tdiv (txtW lS) 16))) lU > 900)
def gBlk (n : Int) (b : kBlk.T) : Int := w64 (w64 (n + b.1.length) + b.2.1.length)
def heavy13 (lS : List ByteArray) (lU : List kUnit.T) (lB : List kBlk.T) : Bool := bif decide (sumUp gBlk lB.length lB > 400) then true else heavy12 lS lU
def heavy14 (lI : List kIns.T) (lN : List Int) : Bool := decide (w64 (insW lI + lN.length) > 300)
def heavy15 (lI : List kIns.T) (lN : List Int) (lS : List ByteArray) (lU : List kUnit.T) (lB : List kBlk.T) (lC : List kBun.T) : Bool := bif (bif decide ((lC.length : Int) > 100) then true else heavy14 lI lN) then true else heavy13 lS lU lB
theorem o85 (xs : List ByteArray) : CallStep Try.prog 124 [.one (.row 9 .str xs)] [] (.one (.int .i64 (txtW xs))) [] := by
  refine CallStep.intro' (n := 25) (n0 := 0) (rs := [.tmp 2]) tb_ok Try.func124 (by kernel_rfl) rfl rfl rfl rfl rfl fun cx hcx => ?_; refine W.sO tb_ok ?_; refine W.sO tb_ok ?_; refine W.seq ?_; refine W.sO tb_ok ?_; refine W.block (W.loop (fun p : Nat × Int => ⟨[(4, .one (.int .i64 p.1)), (3, .one (.int .i64 p.2)), (0, .one (.row 9 .str xs))], [], 25⟩) (fun p => xs.length - p.1) (fun p => p.1 ≤ xs.length ∧ sumUp gTxt p.2 (xs.drop p.1) = txtW xs) (0, xs.length) ⟨Nat.zero_le _, rfl⟩ (Le.to [] hcx rfl ⟨rfl, rfl, rfl, rfl, rfl⟩) fun p hp => ?_); obtain ⟨i, n⟩ := p; obtain ⟨hi, hp⟩ := hp; simp only at hi hp; refine W.seq ?_; refine W.sO tb_ok ?_; refine W.rowLen 8 rfl fun hlen => ?_; refine W.if_ _ rfl (fun e => W.skip ?_) (fun e => W.exit ?_)
  case refine_1 =>
    obtain ⟨h1, h2⟩ := of_decide_eq_true (sum_cond e); refine W.seq (W.block ?_); refine W.rO tb_ok ?_; refine W.rO tb_ok ?_; refine ⟨(i + 1, gTxt n (xs.getD i (⟨#[]⟩ : ByteArray))), ⟨h1, by rw [← hp, sum_in (⟨#[]⟩ : ByteArray) h1 h2]⟩, Le.to [] hcx rfl ⟨?_, rfl, rfl, rfl, rfl⟩, by show _ - (i + 1) < _ - i; omega⟩; show S.ren _ (S.one (.int .i64 (IntKind.i64.wrap (↑i + 1)))) = _; rw [IntWalk.i64_in _ (by omega)]; rfl
  have hn : n = txtW xs := by rw [← hp]; exact (sum_out e).symm
  clear e hp hi; subst hn; refine W.sO tb_ok ?_; exact W.ret (endL1 (tb := tb) (n0 := 0) rfl rfl rfl rfl)
theorem o53 (xs : List kIns.T) : CallStep Try.prog 59 [.one (.row 24 kIns xs)] [] (.one (.int .i64 (insW xs))) [] := by
  refine CallStep.intro' (n := 27) (n0 := 0) (rs := [.tmp 2]) tb_ok Try.func59 (by kernel_rfl) rfl rfl rfl rfl rfl fun cx hcx => ?_; refine W.sO tb_ok ?_; refine W.sO tb_ok ?_; refine W.seq ?_; refine W.sO tb_ok ?_; refine W.block (W.loop (fun p : Nat × Int => ⟨[(4, .one (.int .i64 p.1)), (3, .one (.int .i64 p.2)), (0, .one (.row 24 kIns xs))], [], 27⟩) (fun p => xs.length - p.1) (fun p => p.1 ≤ xs.length ∧ sumUp gIns p.2 (xs.drop p.1) = insW xs) (0, xs.length) ⟨Nat.zero_le _, rfl⟩ (Le.to [] hcx rfl ⟨rfl, rfl, rfl, rfl, rfl⟩) fun p hp => ?_); obtain ⟨i, n⟩ := p; obtain ⟨hi, hp⟩ := hp; simp only at hi hp; refine W.seq ?_; refine W.sO tb_ok ?_; refine W.rowLen 8 rfl fun hlen => ?_; refine W.if_ _ rfl (fun e => W.skip ?_) (fun e => W.exit ?_)
  case refine_1 =>
    obtain ⟨h1, h2⟩ := of_decide_eq_true (sum_cond e); refine W.seq (W.block ?_); refine W.rO tb_ok ?_; refine W.rO tb_ok ?_; refine ⟨(i + 1, gIns n (xs.getD i (K.zero kIns))), ⟨h1, by rw [← hp, sum_in (K.zero kIns) h1 h2]⟩, Le.to [] hcx rfl ⟨?_, rfl, rfl, rfl, rfl⟩, by show _ - (i + 1) < _ - i; omega⟩; show S.ren _ (S.one (.int .i64 (IntKind.i64.wrap (↑i + 1)))) = _; rw [IntWalk.i64_in _ (by omega)]; rfl
  have hn : n = insW xs := by rw [← hp]; exact (sum_out e).symm
  clear e hp hi; subst hn; refine W.sO tb_ok ?_; exact W.ret (endL1 (tb := tb) (n0 := 0) rfl rfl rfl rfl)
theorem o86 (u : kUnit.T) : CallStep Try.prog 125 [.agg (kUnit.flat u)] [] (.one (.int .i64 (unitW u))) [] := by
  obtain ⟨A, B, D, E, _⟩ := u; show CallStep Try.prog 125 [.agg [.row 145 kItem A, .row 147 kVal B, .row 149 kSym D, .row 9 .str E]] [] _ []; refine CallStep.intro' (n := 100) (n0 := 0) (rs := [.tmp 2]) tb_ok Try.func125 (by kernel_rfl) rfl rfl rfl rfl rfl fun cx hcx => ?_; refine W.sO tb_ok ?_; have q0_ := o85 E; refine W.aO [21] tb_ok ?_; refine W.seq ?_; refine W.sO tb_ok ?_; refine W.block (W.loop (fun p : Nat × Int => ⟨[(4, .one (.int .i64 p.1)), (3, .one (.int .i64 p.2)), (1, .one (.ptr 0 0))], [.box 140 [.row 145 kItem A, .row 147 kVal B, .row 149 kSym D, .row 9 .str E]], 100⟩) (fun p => A.length - p.1) (fun p => p.1 ≤ A.length ∧ sumUp gItem p.2 (A.drop p.1) = (sumUp gItem (w64 (w64 (w64 (w64 (A.length + B.length) + D.length) + E.length) + w64 (Int.tdiv (txtW E) 8))) A)) (0, (w64 (w64 (w64 (w64 (A.length + B.length) + D.length) + E.length) + w64 (Int.tdiv (txtW E) 8)))) ⟨Nat.zero_le _, rfl⟩ (Le.to [0] hcx rfl ⟨rfl, rfl, rfl, rfl, rfl⟩) fun p hp => ?_); obtain ⟨i, n⟩ := p; obtain ⟨hi, hp⟩ := hp; simp only at hi hp; refine W.seq ?_; refine W.sO tb_ok ?_; refine W.rowLen 29 rfl fun hlen => ?_; refine W.if_ _ rfl (fun e => W.skip ?_) (fun e => W.exit ?_)
  case refine_1 =>
    obtain ⟨h1, h2⟩ := of_decide_eq_true (sum_cond e); refine W.seq (W.block ?_); refine W.bO [19, 1] tb_ok ?_; refine W.rO tb_ok ?_; refine ⟨(i + 1, gItem n (A.getD i (K.zero kItem))), ⟨h1, by rw [← hp, sum_in (K.zero kItem) h1 h2]⟩, Le.to [0] hcx rfl ⟨?_, rfl, rfl, rfl, rfl⟩, by show _ - (i + 1) < _ - i; omega⟩; show S.ren _ (S.one (.int .i64 (IntKind.i64.wrap (↑i + 1)))) = _; rw [IntWalk.i64_in _ (by omega)]; rfl
  have hn : n = (sumUp gItem (w64 (w64 (w64 (w64 (A.length + B.length) + D.length) + E.length) + w64 (Int.tdiv (txtW E) 8))) A) := by rw [← hp]; exact (sum_out e).symm
  clear e hp hi; subst hn; refine W.seq ?_; refine W.sO tb_ok ?_; refine W.block (W.loop (fun p : Nat × Int => ⟨[(5, .one (.int .i64 p.1)), (3, .one (.int .i64 p.2)), (1, .one (.ptr 0 0))], [.box 140 [.row 145 kItem A, .row 147 kVal B, .row 149 kSym D, .row 9 .str E]], 100⟩) (fun p => B.length - p.1) (fun p => p.1 ≤ B.length ∧ sumUp gVal p.2 (B.drop p.1) = (sumUp gVal (sumUp gItem (w64 (w64 (w64 (w64 (A.length + B.length) + D.length) + E.length) + w64 (Int.tdiv (txtW E) 8))) A) B)) (0, (sumUp gItem (w64 (w64 (w64 (w64 (A.length + B.length) + D.length) + E.length) + w64 (Int.tdiv (txtW E) 8))) A)) ⟨Nat.zero_le _, rfl⟩ (Le.to [0] hcx rfl ⟨rfl, rfl, rfl, rfl, rfl⟩) fun p hp => ?_); obtain ⟨i, n⟩ := p; obtain ⟨hi, hp⟩ := hp; simp only at hi hp; refine W.seq ?_; refine W.sO tb_ok ?_; refine W.rowLen 59 rfl fun hlen => ?_; refine W.if_ _ rfl (fun e => W.skip ?_) (fun e => W.exit ?_)
  case refine_1 =>
    obtain ⟨h1, h2⟩ := of_decide_eq_true (sum_cond e); refine W.seq (W.block ?_); refine W.rO tb_ok ?_; refine W.rO tb_ok ?_; refine ⟨(i + 1, gVal n (B.getD i (K.zero kVal))), ⟨h1, by rw [← hp, sum_in (K.zero kVal) h1 h2]⟩, Le.to [0] hcx rfl ⟨?_, rfl, rfl, rfl, rfl⟩, by show _ - (i + 1) < _ - i; omega⟩; show S.ren _ (S.one (.int .i64 (IntKind.i64.wrap (↑i + 1)))) = _; rw [IntWalk.i64_in _ (by omega)]; rfl
  have hn : n = (sumUp gVal (sumUp gItem (w64 (w64 (w64 (w64 (A.length + B.length) + D.length) + E.length) + w64 (Int.tdiv (txtW E) 8))) A) B) := by rw [← hp]; exact (sum_out e).symm
  clear e hp hi; subst hn; refine W.seq ?_; refine W.sO tb_ok ?_; refine W.block (W.loop (fun p : Nat × Int => ⟨[(6, .one (.int .i64 p.1)), (3, .one (.int .i64 p.2)), (1, .one (.ptr 0 0))], [.box 140 [.row 145 kItem A, .row 147 kVal B, .row 149 kSym D, .row 9 .str E]], 100⟩) (fun p => D.length - p.1) (fun p => p.1 ≤ D.length ∧ sumUp gSym p.2 (D.drop p.1) = (sumUp gSym (sumUp gVal (sumUp gItem (w64 (w64 (w64 (w64 (A.length + B.length) + D.length) + E.length) + w64 (Int.tdiv (txtW E) 8))) A) B) D)) (0, (sumUp gVal (sumUp gItem (w64 (w64 (w64 (w64 (A.length + B.length) + D.length) + E.length) + w64 (Int.tdiv (txtW E) 8))) A) B)) ⟨Nat.zero_le _, rfl⟩ (Le.to [0] hcx rfl ⟨rfl, rfl, rfl, rfl, rfl⟩) fun p hp => ?_); obtain ⟨i, n⟩ := p; obtain ⟨hi, hp⟩ := hp; simp only at hi hp; refine W.seq ?_; refine W.sO tb_ok ?_; refine W.rowLen 80 rfl fun hlen => ?_; refine W.if_ _ rfl (fun e => W.skip ?_) (fun e => W.exit ?_)
  case refine_1 =>
    obtain ⟨h1, h2⟩ := of_decide_eq_true (sum_cond e); refine W.seq (W.block ?_); refine W.rO tb_ok ?_; refine W.rO tb_ok ?_; refine ⟨(i + 1, gSym n (D.getD i (K.zero kSym))), ⟨h1, by rw [← hp, sum_in (K.zero kSym) h1 h2]⟩, Le.to [0] hcx rfl ⟨?_, rfl, rfl, rfl, rfl⟩, by show _ - (i + 1) < _ - i; omega⟩; show S.ren _ (S.one (.int .i64 (IntKind.i64.wrap (↑i + 1)))) = _; rw [IntWalk.i64_in _ (by omega)]; rfl
  have hn : n = (sumUp gSym (sumUp gVal (sumUp gItem (w64 (w64 (w64 (w64 (A.length + B.length) + D.length) + E.length) + w64 (Int.tdiv (txtW E) 8))) A) B) D) := by rw [← hp]; exact (sum_out e).symm
  clear e hp hi; subst hn; refine W.sO tb_ok ?_; exact W.ret (endL1 (tb := tb) (n0 := 0) rfl rfl rfl rfl)
theorem o54 (lS : List ByteArray) (lU : List kUnit.T) : CallStep Try.prog 109 [.agg [.row 9 .str lS, .row 140 kUnit lU]] [] (.one (.bool (heavy12 lS lU))) [] := by
  refine CallStep.intro' (n := 34) (n0 := 0) (rs := [.tmp 2]) tb_ok Try.func109 (by kernel_rfl) rfl rfl rfl rfl rfl fun cx hcx => ?_; refine W.sO tb_ok ?_; have q0_ := o85 lS; refine W.aO [9] tb_ok ?_; refine W.seq ?_; refine W.sO tb_ok ?_; refine W.block (W.loop (fun p : Nat × Int => ⟨[(4, .one (.int .i64 p.1)), (3, .one (.int .i64 p.2)), (1, .one (.ptr 0 0))], [.box 61 [.row 9 .str lS, .row 140 kUnit lU]], 34⟩) (fun p => lU.length - p.1) (fun p => p.1 ≤ lU.length ∧ sumUp gUnit p.2 (lU.drop p.1) = (sumUp gUnit (w64 (lU.length + w64 (Int.tdiv (txtW lS) 16))) lU)) (0, (w64 (lU.length + w64 (Int.tdiv (txtW lS) 16)))) ⟨Nat.zero_le _, rfl⟩ (Le.to [0] hcx rfl ⟨rfl, rfl, rfl, rfl, rfl⟩) fun p hp => ?_); obtain ⟨i, n⟩ := p; obtain ⟨hi, hp⟩ := hp; simp only at hi hp; refine W.seq ?_; refine W.sO tb_ok ?_; refine W.rowLen 15 rfl fun hlen => ?_; refine W.if_ _ rfl (fun e => W.skip ?_) (fun e => W.exit ?_)
  case refine_1 =>
    obtain ⟨h1, h2⟩ := of_decide_eq_true (sum_cond e); refine W.seq (W.block ?_); have h86 := o86 (lU.getD i (K.zero kUnit)); refine W.rO tb_ok ?_; refine W.rO tb_ok ?_; refine ⟨(i + 1, gUnit n (lU.getD i (K.zero kUnit))), ⟨h1, by rw [← hp, sum_in (K.zero kUnit) h1 h2]⟩, Le.to [0] hcx rfl ⟨?_, rfl, rfl, rfl, rfl⟩, by show _ - (i + 1) < _ - i; omega⟩; show S.ren _ (S.one (.int .i64 (IntKind.i64.wrap (↑i + 1)))) = _; rw [IntWalk.i64_in _ (by omega)]; rfl
  have hn : n = (sumUp gUnit (w64 (lU.length + w64 (Int.tdiv (txtW lS) 16))) lU) := by rw [← hp]; exact (sum_out e).symm
  clear e hp hi; subst hn; refine W.sO tb_ok ?_; exact W.ret (endL1 (tb := tb) (n0 := 0) rfl rfl rfl rfl)
theorem o28 (lS : List ByteArray) (lU : List kUnit.T) (lB : List kBlk.T) : CallStep Try.prog 80 [.agg [.row 9 .str lS, .row 140 kUnit lU, .row 73 kBlk lB]] [] (.one (.bool (heavy13 lS lU lB))) [] := by
  refine CallStep.intro' (n := 43) (n0 := 0) (rs := [.tmp 2]) tb_ok Try.func80 (by kernel_rfl) rfl rfl rfl rfl rfl fun cx hcx => ?_; refine W.sO tb_ok ?_; refine W.sO tb_ok ?_; refine W.seq ?_; refine W.sO tb_ok ?_; refine W.block (W.loop (fun p : Nat × Int => ⟨[(4, .one (.int .i64 p.1)), (3, .one (.int .i64 p.2)), (1, .one (.ptr 0 0))], [.box 64 [.row 9 .str lS, .row 140 kUnit lU, .row 73 kBlk lB]], 43⟩) (fun p => lB.length - p.1) (fun p => p.1 ≤ lB.length ∧ sumUp gBlk p.2 (lB.drop p.1) = (sumUp gBlk lB.length lB)) (0, lB.length) ⟨Nat.zero_le _, rfl⟩ (Le.to [0] hcx rfl ⟨rfl, rfl, rfl, rfl, rfl⟩) fun p hp => ?_); obtain ⟨i, n⟩ := p; obtain ⟨hi, hp⟩ := hp; simp only at hi hp; refine W.seq ?_; refine W.sO tb_ok ?_; refine W.rowLen 10 rfl fun hlen => ?_; refine W.if_ _ rfl (fun e => W.skip ?_) (fun e => W.exit ?_)
  case refine_1 =>
    obtain ⟨h1, h2⟩ := of_decide_eq_true (sum_cond e); refine W.seq (W.block ?_); refine W.bO [17, 1] tb_ok ?_; refine W.rO tb_ok ?_; refine ⟨(i + 1, gBlk n (lB.getD i (K.zero kBlk))), ⟨h1, by rw [← hp, sum_in (K.zero kBlk) h1 h2]⟩, Le.to [0] hcx rfl ⟨?_, rfl, rfl, rfl, rfl⟩, by show _ - (i + 1) < _ - i; omega⟩; show S.ren _ (S.one (.int .i64 (IntKind.i64.wrap (↑i + 1)))) = _; rw [IntWalk.i64_in _ (by omega)]; rfl
  have hn : n = (sumUp gBlk lB.length lB) := by rw [← hp]; exact (sum_out e).symm
  clear e hp hi; subst hn; have q0_ := o54 lS lU; refine W.sO tb_ok ?_; exact W.ret (endL1 (tb := tb) (n0 := 0) rfl rfl rfl rfl)
theorem o27 (lI : List kIns.T) (x0 x1 x2 x3 x4 : Int) (x5 : ByteArray) (lN : List Int) : CallStep Try.prog 28 [.agg [.row 24 kIns lI, .int .i64 x0, .int .i64 x1, .int .i64 x2, .int .i64 x3, .int .i64 x4, .str x5, .row 3 kI lN]] [] (.one (.bool (heavy14 lI lN))) [] := by
  refine CallStep.intro' (n := 11) (n0 := 0) (rs := [.tmp 2]) tb_ok Try.func28 (by kernel_rfl) rfl rfl rfl rfl rfl fun cx hcx => ?_; refine W.sO tb_ok ?_; have q0_ := o53 lI; refine W.aO [9] tb_ok ?_; exact W.ret (endL1 (tb := tb) (n0 := 0) rfl rfl rfl rfl)
theorem o5 (lI : List kIns.T) (x0 x1 x2 x3 x4 : Int) (x5 : ByteArray) (lN : List Int) (lS : List ByteArray) (lU : List kUnit.T) (lB : List kBlk.T) (lC : List kBun.T) : CallStep Try.prog 49 [.agg [.row 24 kIns lI, .int .i64 x0, .int .i64 x1, .int .i64 x2, .int .i64 x3, .int .i64 x4, .str x5, .row 3 kI lN, .row 9 .str lS, .row 140 kUnit lU, .row 73 kBlk lB, .row 81 kBun lC]] [] (.one (.bool (heavy15 lI lN lS lU lB lC))) [] := by
  refine CallStep.intro' (n := 17) (n0 := 0) (rs := [.tmp 2]) tb_ok Try.func49 (by kernel_rfl) rfl rfl rfl rfl rfl fun cx hcx => ?_; refine W.sO tb_ok ?_; have q0_ := o27 lI x0 x1 x2 x3 x4 x5 lN; have q1_ := o28 lS lU lB; refine W.sO tb_ok ?_; exact W.ret (endL1 (tb := tb) (n0 := 0) rfl rfl rfl rfl)
theorem light13 : ∀ (lB : List kBlk.T) (n : Int), 0 ≤ n → (∀ b ∈ lB, b.1.length ≤ 1000000000000000 ∧ b.2.1.length ≤ 1000000000000000) → sumUp gBlk n lB ≤ 400 → n ≤ 400 ∧ ∀ b ∈ lB, b.1.length ≤ 400 ∧ b.2.1.length ≤ 400
  | [], n, h0, hb, h => ⟨h, fun b hm => by cases hm⟩
  | b :: lB, n, h0, hb, h => by
    rw [sumUp] at h; split at h
    · rename_i hn
      have h1 := hb b List.mem_cons_self
      have hg : gBlk n b = n + b.1.length + b.2.1.length := by
        unfold gBlk w64; rw [IntWalk.i64_in (n + b.1.length) (by omega), IntWalk.i64_in _ (by omega)]
      have ih := light13 lB (gBlk n b) (by omega) (fun c hc => hb c (List.mem_cons_of_mem _ hc)) h; refine ⟨by omega, fun c hc => ?_⟩; rcases List.mem_cons.1 hc with rfl | hc
      · omega
      · exact ih.2 c hc
    · omega
theorem light15 {lI : List kIns.T} {lN : List Int} {lS : List ByteArray} {lU : List kUnit.T} {lB : List kBlk.T} {lC : List kBun.T} (hb : ∀ b ∈ lB, b.1.length ≤ 1000000000000000 ∧ b.2.1.length ≤ 1000000000000000) (h : heavy15 lI lN lS lU lB lC = false) : lC.length ≤ 100 ∧ lB.length ≤ 400 ∧ ∀ b ∈ lB, b.1.length ≤ 400 ∧ b.2.1.length ≤ 400 := by
  unfold heavy15 heavy13 at h; have h1 : ¬ (lC.length : Int) > 100 := fun hx => by rw [decide_eq_true hx] at h; cases h
  rw [decide_eq_false h1] at h
  cases h14 : heavy14 lI lN with
  | true => rw [h14] at h; cases h
  | false =>
    rw [h14] at h; have h2 : ¬ sumUp gBlk lB.length lB > 400 := fun hx => by rw [decide_eq_true hx] at h; cases h
    have h3 := light13 lB lB.length (by omega) hb (by omega); exact ⟨by omega, by omega, h3.2⟩
end Go.Den
end
section
-- the texts that this claim needs, out of this session's and its print's (wip/shrink.py)
namespace Go.Den
open Go Go.RowKit Go.Proofs Go.Proofs.YtibfkkjkahpobaaW.PrintWords Go.Proofs.Ytibfkkjkahpobaa.PDag
theorem blkL_some {ls : List ByteArray} {l : List S24} {x : S24} (h : mayBlkL ls l x = true) : mayBlk l x = true := by
  unfold mayBlkL at h; simp only [Bool.and_eq_true] at h; exact h.2.1
theorem fg41 (b : kBlk.T) : f41 (g41 b) = b := by
  show (b.1, (b.2.1.map g24).map f24, f24 (g24 b.2.2.1), ()) = b; rw [List.map_map, show (f24 ∘ g24) = id from funext fun y => rfl, List.map_id]; rfl
theorem slot0 (b : S81) : slotB b 0 = b.f0 := rfl
theorem slot1 (b : S81) : slotB b 1 = b.f1 := rfl
theorem slot2 (b : S81) : slotB b 2 = b.f2 := rfl
theorem slot3 (b : S81) : slotB b 3 = b.f3 := rfl
theorem ne_self {y x : S24} (h : y = x) : (!eqI y x) = false := by rw [h, eqI_self]; rfl
def lastAt (l : List S24) (x : S24) (n : Nat) : Int := if 0 ≤ (endC l x).1 ∧ (endC l x).1 < n then (endC l x).1 else -1
def bareAt (l : List S24) (x : S24) (n : Nat) : List S81 := if 0 ≤ (endC l x).1 ∧ (endC l x).1 < n then bunAll l x else bunF l x
section
variable {l : List S24} {x : S24} (hm : mayBlk l x = true)
include hm
theorem end_lt : (endC l x).1 < (bunF l x).length := by
  have hml := blk_may hm; have := endC_bd (mayL_ok hml) (mayL_parts hml).1 x; rw [bun_len]; omega
theorem lastAt_end : lastAt l x (bunF l x).length = (endC l x).1 := by
  have h1 := end_lt hm; have hml := blk_may hm; have he := endC_ok (mayL_ok hml) (mayL_parts hml).1 x; unfold lastAt; split
  · rfl
  · by_cases h : x.f0 = 0
    · exact (he.none h).symm
    · have := he.some h; omega
theorem bareAt_end : bareAt l x (bunF l x).length = bunAll l x := by
  have h1 := end_lt hm; have hml := blk_may hm; have he := endC_ok (mayL_ok hml) (mayL_parts hml).1 x; unfold bareAt; split
  · rfl
  · by_cases h : x.f0 = 0
    · exact bun_none hm h
    · have := he.some h; omega
omit hm in
theorem at_next (n : Nat) (h : ¬ (endC l x).1 = (n : Int)) : lastAt l x (n + 1) = lastAt l x n ∧ bareAt l x (n + 1) = bareAt l x n := by
  unfold lastAt bareAt
  by_cases h1 : 0 ≤ (endC l x).1 ∧ (endC l x).1 < (n : Int)
  · rw [if_pos h1, if_pos h1, if_pos (by omega), if_pos (by omega)]; exact ⟨rfl, rfl⟩
  · rw [if_neg h1, if_neg h1, if_neg (by omega), if_neg (by omega)]; exact ⟨rfl, rfl⟩
omit hm in
theorem at_hit (n : Nat) (h : (endC l x).1 = (n : Int)) : lastAt l x n = -1 ∧ bareAt l x n = bunF l x ∧ lastAt l x (n + 1) = n ∧ bareAt l x (n + 1) = bunAll l x := by
  unfold lastAt bareAt; rw [if_neg (by omega), if_neg (by omega), if_pos (by omega), if_pos (by omega)]; exact ⟨rfl, rfl, h, rfl⟩
omit hm in
theorem bare_len (l : List S24) (x : S24) (n : Nat) : (bareAt l x n).length = (bunF l x).length := by
  unfold bareAt; split
  · rw [bun_len, bunAll_len]
  · rfl
end
theorem schedHolds_den (lI : List kIns.T) (x0 x1 x2 x3 x4 : Int) (x5 : ByteArray) (lN : List Int) (lS : List ByteArray) (lU : List kUnit.T) (lB : List kBlk.T) (lC : List kBun.T) (cs : List C) (hcs : cs = [.row 24 kIns lI, .int .i64 x0, .int .i64 x1, .int .i64 x2, .int .i64 x3, .int .i64 x4, .str x5, .row 3 kI lN, .row 9 .str lS, .row 140 kUnit lU, .row 73 kBlk lB, .row 81 kBun lC]) (hv : Bool) (bs : List kBlk.T)
    (hbs : bs.length ≤ 1000000) (hb : ∀ b ∈ bs, (g41 b).f0.length ≤ 1000000000 ∧ (g41 b).f1.length ≤ 1000000000)
    (h5 : CallStep Try.prog 49 [.agg cs] [] (.one (.bool hv)) [])
    (h6 : hv = false → CallStep Try.prog 50 [.agg cs] [] (.one (.own 0)) [.row 73 kBlk bs]) :
    CallStep Try.prog 14 [.agg cs] [] (.one (.bool true)) [] := by
  subst hcs; have h19 := o19; refine CallStep.intro' (n := 248) (n0 := 0) (rs := [.tmp 2]) tb_ok Try.func14 (by kernel_rfl) rfl rfl rfl rfl rfl fun cx hcx => ?_; refine W.sO tb_ok ?_; refine W.seq ?_; refine W.sO tb_ok ?_; refine W.if_ _ rfl (fun e5 => ?_) (fun e5 => W.skip ?_)
  · refine W.sO tb_ok ?_; exact W.ret (endL1 (tb := tb) (n0 := 0) rfl rfl rfl rfl)
  have q0_ := h6 e5; refine W.sO tb_ok ?_; refine W.seq ?_; refine W.sO tb_ok ?_; refine W.block (W.loop (fun i : Nat => ⟨[(4, .one (.int .i64 i)), (3, .one (.own 1)), (1, .one (.ptr 0 0))], [.box 67 [.row 24 kIns lI, .int .i64 x0, .int .i64 x1, .int .i64 x2, .int .i64 x3, .int .i64 x4, .str x5, .row 3 kI lN, .row 9 .str lS, .row 140 kUnit lU, .row 73 kBlk lB, .row 81 kBun lC], .row 73 kBlk bs], 248⟩) (fun i => bs.length - i) (fun i => i ≤ bs.length) 0 (Nat.zero_le _) (Le.to [0, 1] hcx rfl ⟨rfl, rfl, rfl, rfl, rfl⟩) fun i hi => ?_); refine W.seq ?_; refine W.sO tb_ok ?_; refine W.if_ _ rfl (fun e9 => W.skip ?_) (fun e9 => W.exit ?_)
  case refine_2 =>
    refine W.sO tb_ok ?_; exact W.ret (endL1 (tb := tb) (n0 := 0) rfl rfl rfl rfl)
  have e9 : i < bs.length := by have := of_decide_eq_true e9; omega
  obtain ⟨q0, q1⟩ := hb (bs.getD i (K.zero kBlk)) (by rw [List.getD_eq_getElem?_getD, List.getElem?_eq_getElem e9]; exact List.getElem_mem e9); have hy := fg41 (bs.getD i (K.zero kBlk)); generalize g41 (bs.getD i (K.zero kBlk)) = c at q0 q1 hy; obtain ⟨ls, l, x⟩ := c; simp only at q0 q1; refine W.seq (W.block ?_); refine W.sO tb_ok ?_; refine W.le (σ1 := ⟨[(5, .one (.ptr 2 0)), (4, .one (.int .i64 i)), (3, .one (.own 1)), (1, .one (.ptr 0 0))], [.box 67 [.row 24 kIns lI, .int .i64 x0, .int .i64 x1, .int .i64 x2, .int .i64 x3, .int .i64 x4, .str x5, .row 3 kI lN, .row 9 .str lS, .row 140 kUnit lU, .row 73 kBlk lB, .row 81 kBun lC], .row 73 kBlk bs, .box 73 (kBlk.flat ((ls, l.map f24, f24 x, ()) : kBlk.T))], 248⟩) (Le.to [0, 1, 4] hcx rfl ⟨rfl, rfl, rfl, rfl, by rw [← hy]; rfl, rfl⟩) ?_; clear hy; have h8 := o8 ⟨ls, l, x⟩ q0 q1
  cases hB : mayBlkL ls l x
  · rw [show (if mayBlkL (S73.mk ls l x).f0 (S73.mk ls l x).f1 (S73.mk ls l x).f2 = true then (0 : Int) else 1) = 1 from if_neg (by show ¬ mayBlkL ls l x = true; rw [hB]; exact Bool.false_ne_true)] at h8; refine W.sO tb_ok ?_; refine W.seq ?_; refine W.seqR tb_ok _ (by (repeat' first | dsimp | simp only [castRow_self] | apply And.intro | (refine Exists.intro _ (Exists.intro _ (And.intro (by first | exact CallStep.pure (o14 _) rfl rfl | exact CallStep.rows (o14 _) rfl) ?_))) | (refine Exists.intro _ (And.intro (fun _ => And.intro ?_ (by first | exact CallStep.pure (o14 _) rfl rfl | exact CallStep.rows (o14 _) rfl)) ?_))) <;> first | rfl | trivial | assumption | omega | (intros; and_intros <;> first | rfl | trivial | assumption | omega)) ?_; refine W.ifT rfl (W.exit ?_); refine W.rO tb_ok ?_; refine ⟨i + 1, e9, Le.to [0, 1] hcx rfl ⟨?_, rfl, rfl, rfl, rfl⟩, by omega⟩; show S.ren _ (S.one (.int .i64 (IntKind.i64.wrap (↑i + 1)))) = _; rw [IntWalk.i64_in _ (by omega)]; rfl
  have hm := blkL_some hB; rw [show (if mayBlkL (S73.mk ls l x).f0 (S73.mk ls l x).f1 (S73.mk ls l x).f2 = true then (0 : Int) else 1) = 0 from if_pos hB, show xOf ⟨ls, l, x⟩ = bunF l x from if_pos hB] at h8; have hml := blk_may hm; have ho := mayL_ok hml; have hn := (mayL_parts hml).1; have he := endC_ok ho hn x; have hlen := bun_len l x; have hbd := endC_bd ho hn x; have hL : (l.map f24).length = l.length := List.length_map ..; have hBL : ((bunF l x).map f62).length = (bunF l x).length := List.length_map ..; refine W.sO tb_ok ?_; refine W.seq ?_; refine W.seqR tb_ok _ (by (repeat' first | dsimp | simp only [castRow_self] | apply And.intro | (refine Exists.intro _ (Exists.intro _ (And.intro (by first | exact CallStep.pure (o14 _) rfl rfl | exact CallStep.rows (o14 _) rfl) ?_))) | (refine Exists.intro _ (And.intro (fun _ => And.intro ?_ (by first | exact CallStep.pure (o14 _) rfl rfl | exact CallStep.rows (o14 _) rfl)) ?_))) <;> first | rfl | trivial | assumption | omega | (intros; and_intros <;> first | rfl | trivial | assumption | omega)) ?_; refine W.ifF rfl (W.skip ?_); refine W.sO tb_ok ?_; have q0_ := o20 ((bunF l x).map f62) (by omega); refine W.sO tb_ok ?_; refine W.sO tb_ok ?_; refine W.seq ?_; refine W.sO tb_ok ?_; refine W.block (W.loop (fun n : Nat => ⟨[(11, .one (.int .i64 n)), (10, .one (.int .i64 (lastAt l x n))), (9, .one (.own 4)), (8, .one (.int .i64 l.length)), (6, .one (.own 3)), (5, .one (.ptr 2 0)), (4, .one (.int .i64 i)), (3, .one (.own 1)), (1, .one (.ptr 0 0))], [.box 67 [.row 24 kIns lI, .int .i64 x0, .int .i64 x1, .int .i64 x2, .int .i64 x3, .int .i64 x4, .str x5, .row 3 kI lN, .row 9 .str lS, .row 140 kUnit lU, .row 73 kBlk lB, .row 81 kBun lC], .row 73 kBlk bs, .box 73 (kBlk.flat ((ls, l.map f24, f24 x, ()) : kBlk.T)), .frz 81 kBun ((bunF l x).map f62), .row 81 kBun ((bareAt l x n).map f62)], 248⟩) (fun n => (bunF l x).length - n) (fun n => n ≤ (bunF l x).length) 0 (Nat.zero_le _) (Le.to [0, 1, 2, 3, 4] hcx rfl ⟨rfl, ?_, rfl, ?_, rfl, rfl, rfl, rfl, rfl, ?_, rfl⟩) fun n hn1 => ?_)
  · show _ = S.one (C.int .i64 (lastAt l x 0)); unfold lastAt; rw [if_neg (by omega)]; rfl
  · rw [← hL]; rfl
  · unfold bareAt; rw [if_neg (by omega)]; rfl
  refine W.seq ?_; refine W.sO tb_ok ?_; refine W.if_ _ rfl (fun e => W.skip ?_) (fun e => W.exit ?_)
  case refine_1 =>
    have en : n < (bunF l x).length := by have := of_decide_eq_true e; omega
    have hyn := atB (bunF l x) n en; have hbl := bare_len l x n; have hbl2 : ((bareAt l x n).map f62).length = (bunF l x).length := by rw [List.length_map, hbl]
    have h39 := o39 (((bunF l x).map f62).getD n (K.zero kBun)).1.1; have hen := bun_ends hm n; rw [show endsOp (((bunF l x).map f62).getD n (K.zero kBun)).1.1 = decide ((endC l x).1 = (n : Int)) by rw [hyn]; exact hen] at h39; refine W.seq (W.block ?_); refine W.sO tb_ok ?_; refine W.if_ _ rfl (fun e1 => ?_) (fun e1 => W.skip ?_)
    case refine_2 =>
      obtain ⟨a1, a2⟩ := at_next (l := l) (x := x) n (of_decide_eq_false e1); refine W.rO tb_ok ?_; refine ⟨n + 1, en, Le.to [0, 1, 2, 3, 4] hcx rfl ⟨?_, ?_, rfl, rfl, rfl, rfl, rfl, rfl, rfl, ?_, rfl⟩, by omega⟩
      · show S.ren _ (S.one (.int .i64 (IntKind.i64.wrap (↑n + 1)))) = _; rw [IntWalk.i64_in _ (by omega)]; rfl
      · rw [a1]; rfl
      · rw [a2]; rfl
    have hc := of_decide_eq_true e1; have hx0 : x.f0 ≠ 0 := fun h => by have := he.none h; omega
    obtain ⟨a1, a2, a3, a4⟩ := at_hit (l := l) (x := x) n hc; have hla := bun_last hm hx0; rw [hc] at hla; have hbb := bun_bare hm hx0; rw [hc, Int.toNat_natCast] at hbb; rw [a1, a2]; refine W.seq ?_; refine W.aO [12] tb_ok ?_
    have hq : (bif decide ((-1 : Int) ≥ 0) then true else !eqI (g24 (((bunF l x).map f62).getD n (K.zero kBun)).1) x) = false := by
      rw [hyn]; exact ne_self hla
    refine W.if_ _ rfl (fun e2 => ?_) (fun e2 => W.skip ?_)
    · exact absurd (hq.symm.trans e2) Bool.false_ne_true
    refine W.sO tb_ok ?_; refine W.rO tb_ok ?_; refine W.rO tb_ok ?_; refine ⟨n + 1, en, Le.to [0, 1, 2, 3, 4] hcx rfl ⟨?_, ?_, rfl, rfl, rfl, rfl, rfl, rfl, rfl, ?_, rfl⟩, by omega⟩
    · show S.ren _ (S.one (.int .i64 (IntKind.i64.wrap (↑n + 1)))) = _; rw [IntWalk.i64_in _ (by omega)]; rfl
    · rw [a3]; rfl
    · rw [a4, ← hbb, List.map_set, hyn]; rfl
  have hn2 : n = (bunF l x).length := by have := of_decide_eq_false e; omega
  subst hn2; rw [lastAt_end hm, bareAt_end hm]; clear e hn1; refine W.seq ?_; refine W.sO tb_ok ?_; refine W.ifJ ⟨[(8, .one (.int .i64 ((l.length : Int) + if x.f0 = 0 then 0 else 1))), (10, .one (.int .i64 (endC l x).1)), (9, .one (.own 4)), (6, .one (.own 3)), (5, .one (.ptr 2 0)), (4, .one (.int .i64 i)), (3, .one (.own 1)), (1, .one (.ptr 0 0))], [.box 67 [.row 24 kIns lI, .int .i64 x0, .int .i64 x1, .int .i64 x2, .int .i64 x3, .int .i64 x4, .str x5, .row 3 kI lN, .row 9 .str lS, .row 140 kUnit lU, .row 73 kBlk lB, .row 81 kBun lC], .row 73 kBlk bs, .box 73 (kBlk.flat ((ls, l.map f24, f24 x, ()) : kBlk.T)), .frz 81 kBun ((bunF l x).map f62), .row 81 kBun ((bunAll l x).map f62)], 248⟩ _ rfl (fun e => ?_) (fun e => W.skip ?_) ?_
  · have e1 : ¬ x.f0 = 0 := fun h => by have e : (!(x.f0 == 0)) = true := e; rw [h] at e; cases e
    refine W.rO tb_ok ?_; refine Le.to [0, 1, 2, 3, 4] hcx rfl ⟨?_, rfl, rfl, rfl, rfl, rfl, rfl, rfl, rfl, rfl⟩; show S.ren _ (S.one (.int .i64 (IntKind.i64.wrap (↑l.length + 1)))) = _; rw [IntWalk.i64_in _ (by omega), if_neg e1]; rfl
  · have e1 : x.f0 = 0 := by have e : (!(x.f0 == 0)) = false := e; rw [Bool.not_eq_false'] at e; exact eq_of_beq e
    refine Le.to [0, 1, 2, 3, 4] hcx rfl ⟨?_, rfl, rfl, rfl, rfl, rfl, rfl, rfl, rfl, rfl⟩; show S.ren _ (S.one (C.int .i64 ↑l.length)) = _; rw [if_pos e1, Int.add_zero]; rfl
  have h23 := o23 l (bunAll l x) q1; rw [own_fitsA hml x] at h23; refine W.sO tb_ok ?_; refine W.seq ?_; refine W.seqR tb_ok _ (by (repeat' first | dsimp | simp only [castRow_self] | apply And.intro | (refine Exists.intro _ (Exists.intro _ (And.intro (by first | exact CallStep.pure (o14 _) rfl rfl | exact CallStep.rows (o14 _) rfl) ?_))) | (refine Exists.intro _ (And.intro (fun _ => And.intro ?_ (by first | exact CallStep.pure (o14 _) rfl rfl | exact CallStep.rows (o14 _) rfl)) ?_))) <;> first | rfl | trivial | assumption | omega | (intros; and_intros <;> first | rfl | trivial | assumption | omega) | (intro h; rw [h]; rfl)) ?_
  have hfew : ¬ (((bunF l x).map f62).length : Int) > IntKind.i64.wrap (4 * ((l.length : Int) + if x.f0 = 0 then 0 else 1)) := by
    have h1 := he.few; have h2 : 0 ≤ ((l.length : Int) + if x.f0 = 0 then 0 else 1) := by split <;> omega
    have h3 : ((l.length : Int) + if x.f0 = 0 then 0 else 1) ≤ 1000 := by split <;> omega
    rw [IntWalk.i64_in _ (by omega)]; omega
  have hlo : (decide ((endC l x).1 ≥ 0) != !(x.f0 == 0)) = false := by
    by_cases h : x.f0 = 0
    · rw [he.none h, h]; rfl
    · have h1 := (he.some h).1; rw [decide_eq_true h1, show (x.f0 == 0) = false by simpa using h]; rfl
  refine W.if_ _ rfl (fun e => ?_) (fun e => W.skip ?_)
  · have e1 : (bif (bif (bif !((0 : Int) == 0) then true else !true) then true else decide ((((bunF l x).map f62).length : Int) > IntKind.i64.wrap (4 * ((l.length : Int) + if x.f0 = 0 then 0 else 1)))) then true else (decide ((endC l x).1 ≥ 0) != !(x.f0 == 0))) = true := e; rw [decide_eq_false hfew, hlo] at e1; cases e1
  clear e hfew hlo; have h9 := o9 l q1; rw [if_pos hml, if_pos hml, if_pos hml] at h9; have hcl := cyc_len ho; refine W.sO tb_ok ?_; refine W.seq ?_; refine W.seqR tb_ok _ (by (repeat' first | dsimp | simp only [castRow_self] | apply And.intro | (refine Exists.intro _ (Exists.intro _ (And.intro (by first | exact CallStep.pure (o14 _) rfl rfl | exact CallStep.rows (o14 _) rfl) ?_))) | (refine Exists.intro _ (And.intro (fun _ => And.intro ?_ (by first | exact CallStep.pure (o14 _) rfl rfl | exact CallStep.rows (o14 _) rfl)) ?_))) <;> first | rfl | trivial | assumption | omega | (intros; and_intros <;> first | rfl | trivial | assumption | omega) | (intro h; rw [h]; rfl)) ?_; refine W.if_ _ rfl (fun e => ?_) (fun e => W.skip ?_)
  · have e1 : (bif (bif !((0 : Int) == 0) then true else !(((cycF l).at_.length : Int) == ((l.map f24).length : Int))) then true else !(((cycF l).sl.length : Int) == ((l.map f24).length : Int))) = true := e; simp [hL, hcl.1, hcl.2] at e1
  clear e; refine W.seq ?_; refine W.sO tb_ok ?_; refine W.block (W.loop (fun n : Nat => ⟨[(17, .one (.int .i64 n)), (14, .one (.row 3 kI (cycF l).at_)), (15, .one (.row 3 kI (cycF l).sl)), (10, .one (.int .i64 (endC l x).1)), (6, .one (.own 3)), (5, .one (.ptr 2 0)), (4, .one (.int .i64 i)), (3, .one (.own 1)), (1, .one (.ptr 0 0))], [.box 67 [.row 24 kIns lI, .int .i64 x0, .int .i64 x1, .int .i64 x2, .int .i64 x3, .int .i64 x4, .str x5, .row 3 kI lN, .row 9 .str lS, .row 140 kUnit lU, .row 73 kBlk lB, .row 81 kBun lC], .row 73 kBlk bs, .box 73 (kBlk.flat ((ls, l.map f24, f24 x, ()) : kBlk.T)), .frz 81 kBun ((bunF l x).map f62)], 248⟩) (fun n => l.length - n) (fun n => n ≤ l.length) 0 (Nat.zero_le _) (Le.to [0, 1, 2, 3] hcx rfl ⟨rfl, rfl, rfl, rfl, rfl, rfl, rfl, rfl, rfl, rfl, rfl⟩) fun n hn1 => ?_); refine W.seq ?_; refine W.sO tb_ok ?_; refine W.if_ _ rfl (fun e => W.skip ?_) (fun e => W.exit ?_)
  case refine_1 =>
    have en : n < l.length := by have := of_decide_eq_true e; omega
    have ea : n < (cycF l).at_.length := by omega
    have es : n < (cycF l).sl.length := by omega
    have hyl := at24 l n en; obtain ⟨⟨a0, a1⟩, s0, s1⟩ := cyc_in ho hn n en; have ha2 := hbd.2.2.2.2 n en; have hpl := bun_place hm n en; have hlt := he.late; have hha := he.halt; have hop := okI_op (okA_L ho n en); obtain ⟨m, hma, hmb⟩ : ∃ m : Nat, rd (cycF l).at_ (n : Int) = m ∧ m < (bunF l x).length := ⟨(rd (cycF l).at_ (n : Int)).toNat, by omega, by omega⟩
    have hga : (cycF l).at_.getD n (K.zero kI) = (m : Int) := hma; have hmb2 : m < ((bunF l x).map f62).length := by omega
    have hyb := atB (bunF l x) m hmb; rw [hma] at hpl; have hw1 : IntKind.i64.wrap ((((bunF l x).map f62).length : Int) - 1) = ((bunF l x).length : Int) - 1 := by rw [IntWalk.i64_in _ (by omega)]; omega
    have h35 := o74 (m : Int) (IntKind.i64.wrap ((((bunF l x).map f62).length : Int) - 1)); rw [show decide (0 ≤ (m : Int) ∧ (m : Int) ≤ IntKind.i64.wrap ((((bunF l x).map f62).length : Int) - 1)) = true from decide_eq_true (by rw [hw1]; omega)] at h35; have h27 := o40 ((l.map f24).getD n (K.zero kIns)).1 (by rw [hyl]; exact hop); rw [show lateOp ((l.map f24).getD n (K.zero kIns)).1 = lateOp (J24 l n).f0 by rw [hyl]; rfl] at h27; have hlr := late_range (J24 l n).f0; have hw2 : IntKind.i64.wrap ((m : Int) + lateOp (J24 l n).f0) = (m : Int) + lateOp (J24 l n).f0 := IntWalk.i64_in _ (by omega); have h35s := o74 (rd (cycF l).sl (n : Int)) 3; rw [show decide (0 ≤ rd (cycF l).sl (n : Int) ∧ rd (cycF l).sl (n : Int) ≤ 3) = true from decide_eq_true ⟨s0, s1⟩] at h35s; obtain ⟨q, hs⟩ : ∃ q : Nat, rd (cycF l).sl (n : Int) = q := ⟨(rd (cycF l).sl (n : Int)).toNat, by omega⟩
    rw [hs] at h35s hpl; rw [Int.toNat_natCast] at hpl; have hA : eqI (slotB (g62 (((bunF l x).map f62).getD m (K.zero kBun))) q) (g24 ((l.map f24).getD n (K.zero kIns))) = true := by rw [hyb, hyl, show g62 (f62 (J81 (bunF l x) (m : Int))) = J81 (bunF l x) (m : Int) from rfl, hpl]; exact eqI_self _
    have hgs : (cycF l).sl.getD n (K.zero kI) = (q : Int) := hs; have hq4 : q = 0 ∨ q = 1 ∨ q = 2 ∨ q = 3 := by omega
    clear hpl hs; have hb2 : ((f24 x).1 != 33) = !((f24 x).1 == 33) := rfl; have hc2 : ((f24 x).1 == 33) = true → decide ((m : Int) ≥ (endC l x).1) = false := fun h => decide_eq_false (by have := hha (eq_of_beq h) n en; omega); have hc1 : ((f24 x).1 == 33) = false → decide (IntKind.i64.wrap ((m : Int) + lateOp (J24 l n).f0) > (((bunF l x).map f62).length : Int)) = false := fun h => decide_eq_false (by have := hlt (fun h3 => by have h : (x.f0 == 33) = false := h; rw [h3] at h; cases h) n en; rw [hw2]; omega); refine W.seq (W.block ?_)
    cases hb1 : (f24 x).1 == 33 <;> rcases hq4 with rfl | rfl | rfl | rfl
    all_goals
      simp only [eqI, slot0, slot1, slot2, slot3, g62, g24] at hA; rw [hb1] at hb2
      first | replace hb2 : ((f24 x).1 != 33) = true := hb2 | replace hb2 : ((f24 x).1 != 33) = false := hb2
      first | replace hc1 := hc1 hb1 | replace hc2 := hc2 hb1
      refine W.seqA [38, 4, 16, 7, 7, 2] tb_ok rfl (by kernel_rfl) ?_ ?_ ?_; rotate_left
      · refine segs_cut _ rfl (by (repeat' first | dsimp | simp only [castRow_self, hga, hgs] | apply And.intro | (refine Exists.intro _ (Exists.intro _ (And.intro (by first | exact CallStep.pure (h35) rfl rfl | exact CallStep.rows (h35) rfl | exact CallStep.pure (h35s) rfl rfl | exact CallStep.rows (h35s) rfl) ?_))) | (refine Exists.intro _ (And.intro (fun _ => And.intro ?_ (by first | exact CallStep.pure (h35) rfl rfl | exact CallStep.rows (h35) rfl | exact CallStep.pure (h35s) rfl rfl | exact CallStep.rows (h35s) rfl)) ?_))) <;> first | rfl | trivial | assumption | omega | (intros; and_intros <;> first | rfl | trivial | assumption | omega) | (intro h; rw [h]; rfl) | (simp; done)) ?_; simp only [hA]; refine segs_cut _ rfl (by (repeat' first | dsimp | simp only [castRow_self, hga, hgs] | apply And.intro) <;> first | rfl | trivial | assumption | omega | (intros; and_intros <;> first | rfl | trivial | assumption | omega) | (intro h; rw [h]; rfl) | (simp; done)) ?_; simp only [hb2]; refine segs_cut _ rfl (by (repeat' first | dsimp | simp only [castRow_self, hga, hgs] | apply And.intro | (refine Exists.intro _ (Exists.intro _ (And.intro (by first | exact CallStep.pure (h27) rfl rfl | exact CallStep.rows (h27) rfl) ?_))) | (refine Exists.intro _ (And.intro (fun _ => And.intro ?_ (by first | exact CallStep.pure (h27) rfl rfl | exact CallStep.rows (h27) rfl)) ?_))) <;> first | rfl | trivial | assumption | omega | (intros; and_intros <;> first | rfl | trivial | assumption | omega) | (intro h; rw [h]; rfl) | (simp; done)) ?_
        try simp only [hc1]
        refine segs_cut _ rfl (by (repeat' first | dsimp | simp only [castRow_self, hga, hgs] | apply And.intro) <;> first | rfl | trivial | assumption | omega | (intros; and_intros <;> first | rfl | trivial | assumption | omega) | (intro h; rw [h]; rfl) | (simp; done)) ?_; simp only [hb1]; refine segs_cut _ rfl (by (repeat' first | dsimp | simp only [castRow_self, hga, hgs] | apply And.intro) <;> first | rfl | trivial | assumption | omega | (intros; and_intros <;> first | rfl | trivial | assumption | omega) | (intro h; rw [h]; rfl) | (simp; done)) ?_
        try simp only [hc2]
        exact (by (repeat' first | dsimp | simp only [castRow_self, hga, hgs] | apply And.intro) <;> first | rfl | trivial | assumption | omega | (intros; and_intros <;> first | rfl | trivial | assumption | omega) | (intro h; rw [h]; rfl) | (simp; done))
      refine W.ifF rfl (W.skip ?_); refine W.rO tb_ok ?_; refine ⟨n + 1, en, Le.to [0, 1, 2, 3] hcx rfl ⟨?_, rfl, rfl, rfl, rfl, rfl, rfl, rfl, rfl, rfl, rfl⟩, by omega⟩; show S.ren _ (S.one (.int .i64 (IntKind.i64.wrap (↑n + 1)))) = _; rw [IntWalk.i64_in _ (by omega)]; rfl
  clear hn1 e; refine W.seqR tb_ok _ (by (repeat' first | dsimp | simp only [castRow_self] | apply And.intro) <;> first | rfl | trivial | assumption | omega | (intros; and_intros <;> first | rfl | trivial | assumption | omega) | (intro h; rw [h]; rfl) | ((try simp only [bne]); generalize ((f24 x).1 == 33) = p; generalize decide ((endC l x).1 ≥ 0) = q; generalize ((endC l x).1 == IntKind.i64.wrap (((List.map f62 (bunF l x)).length : Int) - 1)) = r; cases p <;> cases q <;> cases r <;> simp)) ?_
  have hend : (bif decide ((endC l x).1 ≥ 0) then (bif (bif x.f0 == 33 then !((endC l x).1 == IntKind.i64.wrap ((((bunF l x).map f62).length : Int) - 1)) else false) then true else (bif !(x.f0 == 33) then !((endC l x).1 == IntKind.i64.wrap (IntKind.i64.wrap ((((bunF l x).map f62).length : Int) - 1) - 2)) else false)) else false) = false := by
    have hw1 : IntKind.i64.wrap ((((bunF l x).map f62).length : Int) - 1) = ((bunF l x).length : Int) - 1 := by rw [IntWalk.i64_in _ (by omega)]; omega
    rw [hw1, IntWalk.i64_in _ (by omega)]
    by_cases h0 : x.f0 = 0
    · rw [he.none h0]; rfl
    · have h1 := (he.some h0).2.2; have h2 := he.some h0
      by_cases h : x.f0 = 33
      · rw [if_pos h] at h1; rw [show ((endC l x).1 == ((bunF l x).length : Int) - 1) = true by rw [beq_iff_eq]; omega, h]
        cases decide ((endC l x).1 ≥ 0) <;> rfl
      · rw [if_neg h] at h1; rw [show ((endC l x).1 == ((bunF l x).length : Int) - 1 - 2) = true by rw [beq_iff_eq]; omega, show (x.f0 == 33) = false by simpa using h]
        cases decide ((endC l x).1 ≥ 0) <;> rfl
  refine W.if_ _ rfl (fun e => ?_) (fun e => W.skip ?_)
  · exact absurd (hend.symm.trans e) Bool.false_ne_true
  refine W.rO tb_ok ?_; refine ⟨i + 1, e9, Le.to [0, 1] hcx rfl ⟨?_, rfl, rfl, rfl, rfl⟩, by omega⟩; show S.ren _ (S.one (.int .i64 (IntKind.i64.wrap (↑i + 1)))) = _; rw [IntWalk.i64_in _ (by omega)]; rfl
end Go.Den
end
section
-- the texts that this claim needs, out of this session's and its print's (wip/shrink.py)
namespace Go.Den
open Go Go.RowKit Go.Proofs Go.Proofs.YtibfkkjkahpobaaW.PrintWords Go.Proofs.Ytibfkkjkahpobaa.PDag
theorem holds_den {lI : List S24} {x : S24} {lN : List Int} {lS : List ByteArray} {lU : List S140} {lB : List S73} {lC : List S81} (hb : ∀ b ∈ lB, b.f0.length ≤ 1000000000000000 ∧ b.f1.length ≤ 1000000000000000) : CallStep Try.prog 14 [.agg (askC lI x lN lS lU lB lC)] [] (.one (.bool true)) [] := by
  have hl : heavy15 (lI.map f24) lN lS (lU.map f122) (lB.map f41) (lC.map f62) = false → lB.length ≤ 400 ∧ ∀ b ∈ lB, b.f0.length ≤ 400 ∧ b.f1.length ≤ 400 := fun h => by
    have hm : ∀ c ∈ lB.map f41, c.1.length ≤ 1000000000000000 ∧ c.2.1.length ≤ 1000000000000000 := fun c hc => by
      obtain ⟨b, hbm, rfl⟩ := List.mem_map.1 hc; exact ⟨(hb b hbm).1, by show (b.f1.map f24).length ≤ _; rw [List.length_map]; exact (hb b hbm).2⟩
    have := light15 hm h; rw [List.length_map] at this; refine ⟨by have := this.2.1; rwa [List.length_map] at this, fun b hbm => ?_⟩; have h2 := this.2.2 _ (List.mem_map_of_mem (f := f41) hbm); exact ⟨h2.1, by have h3 : (b.f1.map f24).length ≤ 400 := h2.2; rwa [List.length_map] at h3⟩
  have h5 := o5 (lI.map f24) x.f0 x.f1 x.f2 x.f3 x.f4 x.f5 lN lS (lU.map f122) (lB.map f41) (lC.map f62); generalize heavy15 (lI.map f24) lN lS (lU.map f122) (lB.map f41) (lC.map f62) = r at hl h5
  cases r with
  | true => exact schedHolds_den (lI.map f24) x.f0 x.f1 x.f2 x.f3 x.f4 x.f5 lN lS (lU.map f122) (lB.map f41) (lC.map f62) _ rfl true [] (Nat.zero_le _) (fun b hbm => by cases hbm) h5 (fun h => by cases h)
  | false =>
    obtain ⟨h4, hB5⟩ := hl rfl; refine schedHolds_den (lI.map f24) x.f0 x.f1 x.f2 x.f3 x.f4 x.f5 lN lS (lU.map f122) (lB.map f41) (lC.map f62) _ rfl false (blocksF (lI.map f24) (fun a => mayL [g24 a]) (f24 x) (lB.map f41)) ?_ (fun b hbm => ?_) h5 (fun _ => ?_)
    · unfold blocksF; rw [List.length_append, List.length_take, List.length_map]; show _ + 5 ≤ _; omega
    · rcases List.mem_append.1 hbm with hbm | hbm
      · obtain ⟨c, hc, rfl⟩ := List.mem_map.1 (List.mem_of_mem_take hbm); have := hB5 c hc; have hg : g41 (f41 c) = c := br41.gf c; rw [hg]; omega
      · obtain ⟨e, he, rfl⟩ := List.mem_map.1 hbm; have := insUp_len (lI.map f24) (fun a => mayL [g24 a]) (lI.map f24).length; exact ⟨Nat.zero_le _, by show ((insUp (lI.map f24) (fun a => mayL [g24 a]) (lI.map f24).length).map g24).length ≤ 1000000000; rw [List.length_map]; omega⟩
    · exact o6 (lI.map f24) x.f0 x.f1 x.f2 x.f3 x.f4 x.f5 lN lS (lU.map f122) (lB.map f41) (lC.map f62) (fun a => mayL [g24 a]) (fun a => o12 [g24 a] (by show 1 ≤ _; omega)) (by rw [List.length_map]; omega) (fun b hbm => by
        obtain ⟨c, hc, rfl⟩ := List.mem_map.1 hbm; have := hB5 c hc
        exact ⟨by show c.f0.length ≤ _; omega, by show (c.f1.map f24).length ≤ _; rw [List.length_map]; omega⟩)
theorem schedHolds_walk : S15.LawWalk 14 := by
  intro A0 c0 lI x A1 c1 lN A2 c2 lS A3 c3 lU A4 c4 lB A5 c5 lC w h0 b0 h1 b1 h2 b2 h3 b3 h4 b4 h5 b5 hin
  have key := holds_den (lI := lI) (x := x) (lN := lN) (lS := lS) (lU := lU) (lC := lC) (lB := lB) (fun b hb => by
    have hq := hin.b.2 b hb; have q1 := hq.1.1; have q2 := hq.2.1.1
    omega)
  have hU : ∀ a, a < w.heap.size → ¬ (fun _ : Nat => False) a := fun _ _ h => h; refine Calls.mono (key.calls (fun _ => False) (fun _ => undef) w _ (HR.empty _ _ _) (All2.cons ⟨_, rfl, ?_⟩ All2.nil)) ?_
  · exact All2.cons (br24.ofRow hU b0 h0) (All2.cons rfl (All2.cons rfl (All2.cons rfl (All2.cons rfl (All2.cons rfl (All2.cons rfl (All2.cons ((brInts .i64 3).ks hU ⟨A1, c1, rfl, b1, h1⟩) (All2.cons (brStrs.ks hU ⟨A2, c2, rfl, b2, h2⟩) (All2.cons (br122.ofRow hU b3 h3) (All2.cons (br41.ofRow hU b4 h4) (All2.cons (br62.ofRow hU b5 h5) All2.nil)))))))))))
  · rintro e w' ⟨v, U1, ρ1, rfl, g, hs⟩; exact ⟨by rw [show v = .bool true from hs], g.agree.below fun b _ ⟨i, hi⟩ => by simp [place] at hi⟩
end Go.Den
end
