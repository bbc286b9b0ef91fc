import Derived.Test.YtibfkkjkahpobaaGreatFt35
import Derived.Test.YtibfkkjkahpobaaGreatFt34
import Derived.Test.YtibfkkjkahpobaaGreatFt33
import Derived.Test.YtibfkkjkahpobaaGreatFt23
import Derived.Test.YtibfkkjkahpobaaGreatFt30
import Derived.Test.YtibfkkjkahpobaaGreatFt31
import Derived.Test.YtibfkkjkahpobaaGreatFt27
import Derived.Test.YtibfkkjkahpobaaGreatFt29
set_option linter.unusedVariables false
set_option linter.unusedSimpArgs false
set_option maxHeartbeats 8000000
set_option maxRecDepth 100000
section
-- the texts that this claim needs, out of this session's and its print's (wip/shrink.py)
namespace Go.Den
open Go Go.RowKit Go.Proofs Go.Proofs.YtibfkkjkahpobaaGreatW.PrintWords Go.Proofs.YtibfkkjkahpobaaGreat.PDag
theorem slTo_mem2 (c : List S62) (n : Nat) : ∀ t ∈ slTo c n, t.2.1 < 4 := by
  intro t ht; unfold slTo at ht; obtain ⟨i, hi, h⟩ := List.mem_flatMap.1 ht; unfold rowS at h; obtain ⟨s, h4, hs⟩ := List.mem_filterMap.1 h; split at hs
  · cases hs
  · obtain rfl := Option.some.inj hs; exact List.mem_range.1 h4
theorem posOf_mem (l : List S24) (S : List (Nat × Nat × S24)) (i : Nat) (h : cntB l i < (occ S (J24 l i)).length) : ((posOf l S i).1, (posOf l S i).2, J24 l i) ∈ S := by
  have : posOf l S i ∈ occ S (J24 l i) := by
    unfold posOf; rw [List.getElem?_eq_getElem h]; exact List.getElem_mem h
  exact occ_mem this
theorem posL_at (l : List S24) (S : List (Nat × Nat × S24)) (i n : Nat) (h : i < n) : (posL l S n).getD i (K.zero kS) = fS (posOf l S i) := by
  unfold posL; rw [List.getD_eq_getElem?_getD, List.getElem?_map, List.getElem?_range h]; rfl
theorem fitsP_not (l : List S24) (S : List (Nat × Nat × S24)) (h : ¬ found l S) : fitsP l S = false := by
  have : ((List.range l.length).all fun i => decide (cntB l i < (occ S (J24 l i)).length)) = false := by
    rw [← Bool.not_eq_true, List.all_eq_true]; exact fun hh => h fun i hi => of_decide_eq_true (hh i (List.mem_range.2 hi))
  unfold fitsP; rw [this, Bool.false_and]
theorem fitsP_len (l : List S24) (S : List (Nat × Nat × S24)) (h : ¬ S.length = l.length) : fitsP l S = false := by
  unfold fitsP; rw [show (S.length == l.length) = false by rw [← Bool.not_eq_true, beq_iff_eq]; exact h, Bool.false_and, Bool.and_false]
theorem fitsP_yes (l : List S24) (S : List (Nat × Nat × S24)) (h : found l S) (h1 : S.length = l.length) : fitsP l S = (((List.range l.length).all fun i : Nat => mayOp (J24 l i).f0 ((posOf l S i).2 : Int)) && (edges l).all fun e => decide (e.f2 ≤ ((posOf l S e.f1.toNat).1 : Int) - ((posOf l S e.f0.toNat).1 : Int))) := by
  unfold fitsP; rw [show ((List.range l.length).all fun i => decide (cntB l i < (occ S (J24 l i)).length)) = true from List.all_eq_true.2 fun i hi => decide_eq_true (h i (List.mem_range.1 hi)), show (S.length == l.length) = true from beq_iff_eq.2 h1, Bool.true_and, Bool.true_and]
def fitsA (l : List S24) (c : List S62) : Bool × Int := if mayL l = true ∧ wholeL c = true then (fitsP l (slTo c c.length), 0) else (false, 1)
theorem o23 (l : List S24) (c : List S62) (hl : l.length ≤ 1000000000) : CallStep Tryz.prog 23 [.one (.row 24 kIns (l.map f24)), .one (.row 62 kBun (c.map f62))] [] (.tup [(false, [.bool (fitsA l c).1]), (false, [.int .i64 (fitsA l c).2])]) [] := by
  have hL : (l.map f24).length = l.length := List.length_map ..; have h33 := o33 l hl; have h49 := o49 c; refine CallStep.intro' (n := 69) (n0 := 0) (rs := [.tmp 4, .tmp 5]) tb_ok Tryz.func23 (by kernel_rfl) rfl rfl rfl rfl rfl fun cx hcx => ?_; refine W.sO tb_ok ?_; refine W.seq (W.seq ?_); refine W.rO tb_ok ?_; refine W.if_ _ rfl (fun e => ?_) (fun e => W.skip ?_)
  · have e1 : (bif !mayL l then true else !wholeL c) = true := e
    have e2 : fitsA l c = (false, 1) := by
      unfold fitsA; rw [if_neg fun h => by rw [h.1, h.2] at e1; exact Bool.false_ne_true e1]
    rw [e2]; refine W.sO tb_ok ?_; exact W.ret ⟨trivial, [], rfl, rfl, rfl⟩
  have e1 : (bif !mayL l then true else !wholeL c) = false := e; have hm : mayL l = true := by cases h : mayL l with | true => rfl | false => rw [h] at e1; cases e1
  have hw : wholeL c = true := by cases h : wholeL c with | true => rfl | false => rw [h, hm] at e1; cases e1
  have e2 : fitsA l c = (fitsP l (slTo c c.length), 0) := by unfold fitsA; rw [if_pos ⟨hm, hw⟩]
  rw [e2]; have hn := (mayL_parts hm).1; have ho := mayL_ok hm; have hc : c.length ≤ 1024 := by unfold wholeL at hw; simp only [Bool.and_eq_true, decide_eq_true_eq] at hw; exact hw.1
  obtain ⟨R, B, hy, hno, h50⟩ := o50 l c hm hw; have hm1 := slTo_mem c c.length; have hm2 := slTo_mem2 c c.length; generalize slTo c c.length = T at hy hno hm1 hm2 ⊢; refine W.sO tb_ok ?_; refine W.seq (W.seq ?_); refine W.rO tb_ok ?_; refine W.if_ _ rfl (fun e => ?_) (fun e => W.skip ?_)
  · have e3 : B = false := by rw [← Bool.not_eq_true']; exact e
    have e4 : fitsP l T = false := by
      by_cases hf : found l T
      · refine fitsP_len l T fun h => ?_; have := (hy hf).2; rw [e3, decide_eq_true (by omega)] at this; cases this
      · exact fitsP_not l T hf
    rw [e4]; refine W.sO tb_ok ?_; exact W.ret ⟨trivial, [], rfl, rfl, rfl⟩
  have e3 : B = true := by rw [← Bool.not_eq_false']; exact e
  have hf : found l T := Classical.byContradiction fun h => by have := (hno h).2; rw [e3] at this; cases this
  obtain ⟨hR, hB⟩ := hy hf; have hTl : T.length = l.length := by have := of_decide_eq_true (hB.symm.trans e3); omega
  have hfp := fitsP_yes l T hf hTl; have hRl : R.length = l.length := by rw [hR, posL_len]
  have hRa : ∀ i : Nat, i < l.length → R.getD i (K.zero kS) = fS (posOf l T i) := fun i hi => by rw [hR]; exact posL_at l T i _ hi
  have hpm := fun i h => posOf_mem l T i (hf i h); have h52 := o52 l hn ho; have hfew := edges_few l hn; have hE : ((edges l).map f100).length = (edges l).length := List.length_map ..; clear hR hB hy hno e e1 e2; refine W.seq (W.seq ?_); refine W.rO tb_ok ?_; refine W.block (W.loop (fun i : Nat => ⟨[(30, .one (.int .i64 i)), (29, .one (.int .i64 ((l.map f24).length : Int))), (28, .one (.row 24 kIns (l.map f24))), (6, .one (.row 98 kS R)), (0, .one (.row 24 kIns (l.map f24)))], [], 69⟩) (fun i => l.length - i) (fun i => i ≤ l.length ∧ ∀ j : Nat, j < i → mayOp (J24 l j).f0 ((posOf l T j).2 : Int) = true) 0 ⟨Nat.zero_le _, fun j h => absurd h (Nat.not_lt_zero _)⟩ (Le.to [] hcx rfl ⟨rfl, rfl, rfl, rfl, rfl, rfl, rfl⟩) fun i hi => ?_); obtain ⟨hi, hp⟩ := hi; refine W.sO tb_ok ?_; refine W.seq ?_; refine W.if_ _ rfl (fun e => W.skip ?_) (fun e => W.exit ?_)
  · have ei : i < l.length := by have := of_decide_eq_true e; omega
    have hat := at24 l i ei; have hxok : okI (J24 l i) = true := by rw [rd_at l i ei]; exact ho _ (List.getElem_mem ei)
    have hra := hRa i ei; have hs4 := hm2 _ (hpm i ei); have hs4 : (posOf l T i).2 < 4 := hs4; have h51 := o51 (((l.map f24).getD i (K.zero kIns)).1) ((R.getD i (K.zero kS)).2.1) (by rw [hat]; exact okI_op hxok) (by rw [hra]; show 0 ≤ ((posOf l T i).2 : Int) ∧ ((posOf l T i).2 : Int) ≤ 3; omega); refine W.seq (W.block ?_); refine W.sO tb_ok ?_; refine W.aO [9] tb_ok ?_; have hcond : mayOp (((l.map f24).getD i (K.zero kIns)).1) ((R.getD i (K.zero kS)).2.1) = mayOp (J24 l i).f0 ((posOf l T i).2 : Int) := by rw [hat, hra]; rfl
    refine W.if_ _ rfl (fun e2 => ?_) (fun e2 => W.skip ?_)
    · have e3 : mayOp (J24 l i).f0 ((posOf l T i).2 : Int) = false := by rw [← hcond, ← Bool.not_eq_true']; exact e2
      rw [show fitsP l T = false by
        rw [hfp, show ((List.range l.length).all fun i : Nat => mayOp (J24 l i).f0 ((posOf l T i).2 : Int)) = false by
          rw [← Bool.not_eq_true, List.all_eq_true]; exact fun h => by have := h i (List.mem_range.2 ei); rw [e3] at this; cases this]; rfl]
      refine W.sO tb_ok ?_; exact W.ret ⟨trivial, [], rfl, rfl, rfl⟩
    · have e3 : mayOp (J24 l i).f0 ((posOf l T i).2 : Int) = true := by rw [← hcond, ← Bool.not_eq_false']; exact e2
      refine W.rO tb_ok ?_; refine ⟨i + 1, ⟨ei, fun j hj => ?_⟩, Le.to [] hcx rfl ⟨?_, rfl, rfl, rfl, rfl, rfl, rfl⟩, by omega⟩
      · rcases Nat.eq_or_lt_of_le (Nat.le_of_lt_succ hj) with h | h
        · rw [h]; exact e3
        · exact hp j h
      · show S.ren _ (S.one (.int .i64 (IntKind.i64.wrap (↑i + 1)))) = _; rw [IntWalk.i64_in _ (by omega)]; rfl
  have hi2 : i = l.length := by have := of_decide_eq_false e; omega
  subst hi2; rw [show ((List.range l.length).all fun i : Nat => mayOp (J24 l i).f0 ((posOf l T i).2 : Int)) = true from List.all_eq_true.2 fun i hi => hp i (List.mem_range.1 hi), Bool.true_and] at hfp; refine W.seq (W.seq ?_); refine W.rO tb_ok ?_; refine W.block (W.loop (fun j : Nat => ⟨[(48, .one (.int .i64 j)), (47, .one (.int .i64 (((edges l).map f100).length : Int))), (46, .one (.row 100 kE ((edges l).map f100))), (6, .one (.row 98 kS R)), (0, .one (.row 24 kIns (l.map f24)))], [], 69⟩) (fun j => (edges l).length - j) (fun j => j ≤ (edges l).length ∧ (((edges l).drop j).all fun e => decide (e.f2 ≤ ((posOf l T e.f1.toNat).1 : Int) - ((posOf l T e.f0.toNat).1 : Int))) = fitsP l T) 0 ⟨Nat.zero_le _, hfp.symm⟩ (Le.to [] hcx rfl ⟨rfl, rfl, rfl, rfl, rfl, rfl, rfl⟩) fun j hj => ?_); obtain ⟨hj, hr⟩ := hj; refine W.sO tb_ok ?_; refine W.seq ?_; refine W.if_ _ rfl (fun e => W.skip ?_) (fun e => W.exit ?_)
  case refine_2 =>
    have hj2 : j = (edges l).length := by have := of_decide_eq_false e; omega
    subst hj2; rw [← hr, List.drop_of_length_le (Nat.le_refl _)]; refine W.sO tb_ok ?_; exact W.ret ⟨trivial, [], rfl, rfl, rfl⟩
  have ej : j < (edges l).length := by have := of_decide_eq_true e; omega
  obtain ⟨x, t, ex, et, hxl, htl⟩ := edges_in (List.getElem_mem ej); have hd := edges_dist l _ (List.getElem_mem ej); have hx1 := hm1 _ (hpm x hxl); have hx1 : (posOf l T x).1 < c.length := hx1; have ht1 := hm1 _ (hpm t htl); have ht1 : (posOf l T t).1 < c.length := ht1; have hq1 : ((edges l).map f100).getD j (K.zero kE) = ((x : Int), (t : Int), (edges l)[j].f2, ()) := by rw [at100 _ j ej, ← ex, ← et]; rfl
  have hq2 : 0 ≤ (((edges l).map f100).getD j (K.zero kE)).1 := by rw [hq1]; exact Int.natCast_nonneg x
  have hq3 : (((edges l).map f100).getD j (K.zero kE)).1 < (R.length : Int) := by rw [hq1]; show (x : Int) < _; omega
  have hq4 : Int.toNat (((edges l).map f100).getD j (K.zero kE)).1 < R.length := by rw [hq1]; show Int.toNat (x : Int) < _; omega
  have hq5 : 0 ≤ (((edges l).map f100).getD j (K.zero kE)).2.1 := by rw [hq1]; exact Int.natCast_nonneg t
  have hq6 : (((edges l).map f100).getD j (K.zero kE)).2.1 < (R.length : Int) := by rw [hq1]; show (t : Int) < _; omega
  have hq7 : Int.toNat (((edges l).map f100).getD j (K.zero kE)).2.1 < R.length := by rw [hq1]; show Int.toNat (t : Int) < _; omega
  rw [List.drop_eq_getElem_cons ej, List.all_cons] at hr
  have hcond : decide (IntKind.i64.wrap ((R.getD (Int.toNat (((edges l).map f100).getD j (K.zero kE)).2.1) (K.zero kS)).1 - (R.getD (Int.toNat (((edges l).map f100).getD j (K.zero kE)).1) (K.zero kS)).1) < (((edges l).map f100).getD j (K.zero kE)).2.2.1) = !decide ((edges l)[j].f2 ≤ ((posOf l T (edges l)[j].f1.toNat).1 : Int) - ((posOf l T (edges l)[j].f0.toNat).1 : Int)) := by
    rw [hq1, ex, et, Int.toNat_natCast, Int.toNat_natCast]; show decide (IntKind.i64.wrap ((R.getD t (K.zero kS)).1 - (R.getD x (K.zero kS)).1) < (edges l)[j].f2) = _; rw [hRa x hxl, hRa t htl]; show decide (IntKind.i64.wrap (((posOf l T t).1 : Int) - ((posOf l T x).1 : Int)) < (edges l)[j].f2) = _; rw [IntWalk.i64_in _ (by omega), ← decide_not]; exact decide_eq_decide.2 Int.not_le.symm
  refine W.seq (W.block ?_); refine W.sO tb_ok ?_; refine W.aO [16] tb_ok ?_; refine W.if_ _ rfl (fun h => ?_) (fun h => W.skip ?_)
  · have h1 := hcond.symm.trans h; rw [Bool.not_eq_true'] at h1; rw [← hr, h1]; refine W.sO tb_ok ?_; exact W.ret ⟨trivial, [], rfl, rfl, rfl⟩
  · have h1 := hcond.symm.trans h; rw [Bool.not_eq_false'] at h1; rw [h1, Bool.true_and] at hr; refine W.rO tb_ok ?_; refine ⟨j + 1, ⟨ej, hr⟩, Le.to [] hcx rfl ⟨?_, rfl, rfl, rfl, rfl, rfl, rfl⟩, by omega⟩; show S.ren _ (S.one (.int .i64 (IntKind.i64.wrap (↑j + 1)))) = _; rw [IntWalk.i64_in _ (by omega)]; rfl
end Go.Den
end
section
-- the texts that this claim needs, out of this session's and its print's (wip/shrink.py)
namespace Go.Den
open Go Go.RowKit Go.Proofs Go.Proofs.YtibfkkjkahpobaaGreatW.PrintWords Go.Proofs.YtibfkkjkahpobaaGreat.PDag
def f132 (x : S132) : kItem.T := (x.f0, f24 x.f1, ())
def g132 (y : kItem.T) : S132 := ⟨y.1, g24 y.2.1⟩
theorem br132 : Br k132 kItem f132 g132 := Br.iso (Br.pair Br.str (Br.last br24)) (fun x : S132 => (x.f0, x.f1)) (fun y => ⟨y.1, y.2⟩) (fun _ => rfl) (fun _ => rfl)
def f134 (x : S134) : kVal.T := (x.f0, x.f1, ())
def g134 (y : kVal.T) : S134 := ⟨y.1, y.2.1⟩
theorem br134 : Br k134 kVal f134 g134 := Br.iso (Br.pair Br.str (Br.last (Br.int .i64))) (fun x : S134 => (x.f0, x.f1)) (fun y => ⟨y.1, y.2⟩) (fun _ => rfl) (fun _ => rfl)
def f136 (x : S136) : kSym.T := (x.f0, x.f1, x.f2, x.f3, ())
def g136 (y : kSym.T) : S136 := ⟨y.1, y.2.1, y.2.2.1, y.2.2.2.1⟩
theorem br136 : Br k136 kSym f136 g136 := Br.iso (Br.pair Br.str (Br.pair Br.bool (Br.pair (Br.int .i64) (Br.last Br.bool)))) (fun x : S136 => (x.f0, x.f1, x.f2, x.f3)) (fun y => ⟨y.1, y.2.1, y.2.2.1, y.2.2.2⟩) (fun _ => rfl) (fun _ => rfl)
def f122 (x : S122) : kUnit.T := (x.f0.map f132, x.f1.map f134, x.f2.map f136, x.f3, ())
def g122 (y : kUnit.T) : S122 := ⟨y.1.map g132, y.2.1.map g134, y.2.2.1.map g136, y.2.2.2.1⟩
theorem br122 : Br k122 kUnit f122 g122 := Br.iso (Br.pair (Br.slice 132 br132) (Br.pair (Br.slice 134 br134) (Br.pair (Br.slice 136 br136) (Br.last brStrs)))) (fun x : S122 => (x.f0, x.f1, x.f2, x.f3)) (fun y => ⟨y.1, y.2.1, y.2.2.1, y.2.2.2⟩) (fun _ => rfl) (fun _ => rfl)
def askC (lI : List S24) (x : S24) (lN : List Int) (lS : List ByteArray) (lU : List S122) (lB : List S41) (lC : List S62) : List C := [.row 24 kIns (lI.map f24), .int .i64 x.f0, .int .i64 x.f1, .int .i64 x.f2, .int .i64 x.f3, .int .i64 x.f4, .str x.f5, .row 3 kI lN, .row 9 .str lS, .row 122 kUnit (lU.map f122), .row 41 kBlk (lB.map f41), .row 62 kBun (lC.map f62)]
def sumUp {α : Type} (g : Int → α → Int) : Int → List α → Int
  | n, [] => n
  | n, x :: xs => if n < 1048576 then sumUp g (g n x) xs else n
section
variable {α : Type} {g : Int → α → Int} {i : Nat} {n : Int} {xs : List α}
theorem sum_cond {b : Bool} (e : (bif decide ((i : Int) < (xs.length : Int)) then decide (n < 1048576) else false) = b) : decide (i < xs.length ∧ n < 1048576) = b := by
  rw [← e]; by_cases h1 : i < xs.length <;> by_cases h2 : n < 1048576 <;> simp [h1, h2]
theorem sum_out (e : (bif decide ((i : Int) < (xs.length : Int)) then decide (n < 1048576) else false) = false) : sumUp g n (xs.drop i) = n := by
  have h := of_decide_eq_false (sum_cond e)
  cases hd : xs.drop i with
  | nil => rfl
  | cons y ys =>
    have : i < xs.length := Nat.lt_of_not_le fun h => by rw [List.drop_of_length_le h] at hd; cases hd
    rw [sumUp, if_neg fun h2 => h ⟨this, h2⟩]
theorem sum_in (z : α) (h1 : i < xs.length) (h2 : n < 1048576) : sumUp g n (xs.drop i) = sumUp g (g n (xs.getD i z)) (xs.drop (i + 1)) := by
  rw [List.drop_eq_getElem_cons h1, sumUp, if_pos h2, List.getD_eq_getElem?_getD, List.getElem?_eq_getElem h1]; rfl
end
@[reducible] def w64 (n : Int) : Int := IntKind.i64.wrap n
def gTxt (n : Int) (s : ByteArray) : Int := w64 (n + s.size)
def txtW (l : List ByteArray) : Int := sumUp gTxt l.length l
def gIns (n : Int) (x : kIns.T) : Int := w64 (n + w64 (Int.tdiv x.2.2.2.2.2.1.size 8))
def insW (l : List kIns.T) : Int := sumUp gIns l.length l
def gItem (n : Int) (x : kItem.T) : Int := w64 (n + w64 (Int.tdiv (w64 (x.1.size + x.2.1.2.2.2.2.2.1.size)) 8))
def gVal (n : Int) (x : kVal.T) : Int := w64 (n + w64 (Int.tdiv x.1.size 8))
def gSym (n : Int) (x : kSym.T) : Int := w64 (n + w64 (Int.tdiv x.1.size 8))
def unitW (u : kUnit.T) : Int := sumUp gSym (sumUp gVal (sumUp gItem (w64 (w64 (w64 (w64 (u.1.length + u.2.1.length) + u.2.2.1.length) + u.2.2.2.1.length) + w64 (Int.tdiv (txtW u.2.2.2.1) 8))) u.1) u.2.1) u.2.2.1
def gUnit (n : Int) (u : kUnit.T) : Int := w64 (n + unitW u)
def heavy12 (lS : List ByteArray) (lU : List kUnit.T) : Bool := decide (sumUp gUnit (w64 (lU.length + w64 (Int.tdiv (txtW lS) 16))) lU > 900)
def gBlk (n : Int) (b : kBlk.T) : Int := w64 (w64 (n + b.1.length) + b.2.1.length)
def heavy13 (lS : List ByteArray) (lU : List kUnit.T) (lB : List kBlk.T) : Bool := bif decide (sumUp gBlk lB.length lB > 400) then true else heavy12 lS lU
def heavy14 (lI : List kIns.T) (lN : List Int) : Bool := decide (w64 (insW lI + lN.length) > 300)
def heavy15 (lI : List kIns.T) (lN : List Int) (lS : List ByteArray) (lU : List kUnit.T) (lB : List kBlk.T) (lC : List kBun.T) : Bool := bif (bif decide ((lC.length : Int) > 100) then true else heavy14 lI lN) then true else heavy13 lS lU lB
theorem o85 (xs : List ByteArray) : CallStep Tryz.prog 85 [.one (.row 9 .str xs)] [] (.one (.int .i64 (txtW xs))) [] := by
  refine CallStep.intro' (n := 25) (n0 := 0) (rs := [.tmp 2]) tb_ok Tryz.func85 (by kernel_rfl) rfl rfl rfl rfl rfl fun cx hcx => ?_; refine W.sO tb_ok ?_; refine W.sO tb_ok ?_; refine W.seq ?_; refine W.sO tb_ok ?_; refine W.block (W.loop (fun p : Nat × Int => ⟨[(4, .one (.int .i64 p.1)), (3, .one (.int .i64 p.2)), (0, .one (.row 9 .str xs))], [], 25⟩) (fun p => xs.length - p.1) (fun p => p.1 ≤ xs.length ∧ sumUp gTxt p.2 (xs.drop p.1) = txtW xs) (0, xs.length) ⟨Nat.zero_le _, rfl⟩ (Le.to [] hcx rfl ⟨rfl, rfl, rfl, rfl, rfl⟩) fun p hp => ?_); obtain ⟨i, n⟩ := p; obtain ⟨hi, hp⟩ := hp; simp only at hi hp; refine W.seq ?_; refine W.sO tb_ok ?_; refine W.rowLen 8 rfl fun hlen => ?_; refine W.if_ _ rfl (fun e => W.skip ?_) (fun e => W.exit ?_)
  case refine_1 =>
    obtain ⟨h1, h2⟩ := of_decide_eq_true (sum_cond e); refine W.seq (W.block ?_); refine W.rO tb_ok ?_; refine W.rO tb_ok ?_; refine ⟨(i + 1, gTxt n (xs.getD i (⟨#[]⟩ : ByteArray))), ⟨h1, by rw [← hp, sum_in (⟨#[]⟩ : ByteArray) h1 h2]⟩, Le.to [] hcx rfl ⟨?_, rfl, rfl, rfl, rfl⟩, by show _ - (i + 1) < _ - i; omega⟩; show S.ren _ (S.one (.int .i64 (IntKind.i64.wrap (↑i + 1)))) = _; rw [IntWalk.i64_in _ (by omega)]; rfl
  have hn : n = txtW xs := by rw [← hp]; exact (sum_out e).symm
  clear e hp hi; subst hn; refine W.sO tb_ok ?_; exact W.ret (endL1 (tb := tb) (n0 := 0) rfl rfl rfl rfl)
theorem o53 (xs : List kIns.T) : CallStep Tryz.prog 53 [.one (.row 24 kIns xs)] [] (.one (.int .i64 (insW xs))) [] := by
  refine CallStep.intro' (n := 27) (n0 := 0) (rs := [.tmp 2]) tb_ok Tryz.func53 (by kernel_rfl) rfl rfl rfl rfl rfl fun cx hcx => ?_; refine W.sO tb_ok ?_; refine W.sO tb_ok ?_; refine W.seq ?_; refine W.sO tb_ok ?_; refine W.block (W.loop (fun p : Nat × Int => ⟨[(4, .one (.int .i64 p.1)), (3, .one (.int .i64 p.2)), (0, .one (.row 24 kIns xs))], [], 27⟩) (fun p => xs.length - p.1) (fun p => p.1 ≤ xs.length ∧ sumUp gIns p.2 (xs.drop p.1) = insW xs) (0, xs.length) ⟨Nat.zero_le _, rfl⟩ (Le.to [] hcx rfl ⟨rfl, rfl, rfl, rfl, rfl⟩) fun p hp => ?_); obtain ⟨i, n⟩ := p; obtain ⟨hi, hp⟩ := hp; simp only at hi hp; refine W.seq ?_; refine W.sO tb_ok ?_; refine W.rowLen 8 rfl fun hlen => ?_; refine W.if_ _ rfl (fun e => W.skip ?_) (fun e => W.exit ?_)
  case refine_1 =>
    obtain ⟨h1, h2⟩ := of_decide_eq_true (sum_cond e); refine W.seq (W.block ?_); refine W.rO tb_ok ?_; refine W.rO tb_ok ?_; refine ⟨(i + 1, gIns n (xs.getD i (K.zero kIns))), ⟨h1, by rw [← hp, sum_in (K.zero kIns) h1 h2]⟩, Le.to [] hcx rfl ⟨?_, rfl, rfl, rfl, rfl⟩, by show _ - (i + 1) < _ - i; omega⟩; show S.ren _ (S.one (.int .i64 (IntKind.i64.wrap (↑i + 1)))) = _; rw [IntWalk.i64_in _ (by omega)]; rfl
  have hn : n = insW xs := by rw [← hp]; exact (sum_out e).symm
  clear e hp hi; subst hn; refine W.sO tb_ok ?_; exact W.ret (endL1 (tb := tb) (n0 := 0) rfl rfl rfl rfl)
theorem o86 (u : kUnit.T) : CallStep Tryz.prog 86 [.agg (kUnit.flat u)] [] (.one (.int .i64 (unitW u))) [] := by
  obtain ⟨A, B, D, E, _⟩ := u; show CallStep Tryz.prog 86 [.agg [.row 132 kItem A, .row 134 kVal B, .row 136 kSym D, .row 9 .str E]] [] _ []; refine CallStep.intro' (n := 100) (n0 := 0) (rs := [.tmp 2]) tb_ok Tryz.func86 (by kernel_rfl) rfl rfl rfl rfl rfl fun cx hcx => ?_; refine W.sO tb_ok ?_; have q0_ := o85 E; refine W.aO [21] tb_ok ?_; refine W.seq ?_; refine W.sO tb_ok ?_; refine W.block (W.loop (fun p : Nat × Int => ⟨[(4, .one (.int .i64 p.1)), (3, .one (.int .i64 p.2)), (1, .one (.ptr 0 0))], [.box 122 [.row 132 kItem A, .row 134 kVal B, .row 136 kSym D, .row 9 .str E]], 100⟩) (fun p => A.length - p.1) (fun p => p.1 ≤ A.length ∧ sumUp gItem p.2 (A.drop p.1) = (sumUp gItem (w64 (w64 (w64 (w64 (A.length + B.length) + D.length) + E.length) + w64 (Int.tdiv (txtW E) 8))) A)) (0, (w64 (w64 (w64 (w64 (A.length + B.length) + D.length) + E.length) + w64 (Int.tdiv (txtW E) 8)))) ⟨Nat.zero_le _, rfl⟩ (Le.to [0] hcx rfl ⟨rfl, rfl, rfl, rfl, rfl⟩) fun p hp => ?_); obtain ⟨i, n⟩ := p; obtain ⟨hi, hp⟩ := hp; simp only at hi hp; refine W.seq ?_; refine W.sO tb_ok ?_; refine W.rowLen 29 rfl fun hlen => ?_; refine W.if_ _ rfl (fun e => W.skip ?_) (fun e => W.exit ?_)
  case refine_1 =>
    obtain ⟨h1, h2⟩ := of_decide_eq_true (sum_cond e); refine W.seq (W.block ?_); refine W.bO [19, 1] tb_ok ?_; refine W.rO tb_ok ?_; refine ⟨(i + 1, gItem n (A.getD i (K.zero kItem))), ⟨h1, by rw [← hp, sum_in (K.zero kItem) h1 h2]⟩, Le.to [0] hcx rfl ⟨?_, rfl, rfl, rfl, rfl⟩, by show _ - (i + 1) < _ - i; omega⟩; show S.ren _ (S.one (.int .i64 (IntKind.i64.wrap (↑i + 1)))) = _; rw [IntWalk.i64_in _ (by omega)]; rfl
  have hn : n = (sumUp gItem (w64 (w64 (w64 (w64 (A.length + B.length) + D.length) + E.length) + w64 (Int.tdiv (txtW E) 8))) A) := by rw [← hp]; exact (sum_out e).symm
  clear e hp hi; subst hn; refine W.seq ?_; refine W.sO tb_ok ?_; refine W.block (W.loop (fun p : Nat × Int => ⟨[(5, .one (.int .i64 p.1)), (3, .one (.int .i64 p.2)), (1, .one (.ptr 0 0))], [.box 122 [.row 132 kItem A, .row 134 kVal B, .row 136 kSym D, .row 9 .str E]], 100⟩) (fun p => B.length - p.1) (fun p => p.1 ≤ B.length ∧ sumUp gVal p.2 (B.drop p.1) = (sumUp gVal (sumUp gItem (w64 (w64 (w64 (w64 (A.length + B.length) + D.length) + E.length) + w64 (Int.tdiv (txtW E) 8))) A) B)) (0, (sumUp gItem (w64 (w64 (w64 (w64 (A.length + B.length) + D.length) + E.length) + w64 (Int.tdiv (txtW E) 8))) A)) ⟨Nat.zero_le _, rfl⟩ (Le.to [0] hcx rfl ⟨rfl, rfl, rfl, rfl, rfl⟩) fun p hp => ?_); obtain ⟨i, n⟩ := p; obtain ⟨hi, hp⟩ := hp; simp only at hi hp; refine W.seq ?_; refine W.sO tb_ok ?_; refine W.rowLen 59 rfl fun hlen => ?_; refine W.if_ _ rfl (fun e => W.skip ?_) (fun e => W.exit ?_)
  case refine_1 =>
    obtain ⟨h1, h2⟩ := of_decide_eq_true (sum_cond e); refine W.seq (W.block ?_); refine W.rO tb_ok ?_; refine W.rO tb_ok ?_; refine ⟨(i + 1, gVal n (B.getD i (K.zero kVal))), ⟨h1, by rw [← hp, sum_in (K.zero kVal) h1 h2]⟩, Le.to [0] hcx rfl ⟨?_, rfl, rfl, rfl, rfl⟩, by show _ - (i + 1) < _ - i; omega⟩; show S.ren _ (S.one (.int .i64 (IntKind.i64.wrap (↑i + 1)))) = _; rw [IntWalk.i64_in _ (by omega)]; rfl
  have hn : n = (sumUp gVal (sumUp gItem (w64 (w64 (w64 (w64 (A.length + B.length) + D.length) + E.length) + w64 (Int.tdiv (txtW E) 8))) A) B) := by rw [← hp]; exact (sum_out e).symm
  clear e hp hi; subst hn; refine W.seq ?_; refine W.sO tb_ok ?_; refine W.block (W.loop (fun p : Nat × Int => ⟨[(6, .one (.int .i64 p.1)), (3, .one (.int .i64 p.2)), (1, .one (.ptr 0 0))], [.box 122 [.row 132 kItem A, .row 134 kVal B, .row 136 kSym D, .row 9 .str E]], 100⟩) (fun p => D.length - p.1) (fun p => p.1 ≤ D.length ∧ sumUp gSym p.2 (D.drop p.1) = (sumUp gSym (sumUp gVal (sumUp gItem (w64 (w64 (w64 (w64 (A.length + B.length) + D.length) + E.length) + w64 (Int.tdiv (txtW E) 8))) A) B) D)) (0, (sumUp gVal (sumUp gItem (w64 (w64 (w64 (w64 (A.length + B.length) + D.length) + E.length) + w64 (Int.tdiv (txtW E) 8))) A) B)) ⟨Nat.zero_le _, rfl⟩ (Le.to [0] hcx rfl ⟨rfl, rfl, rfl, rfl, rfl⟩) fun p hp => ?_); obtain ⟨i, n⟩ := p; obtain ⟨hi, hp⟩ := hp; simp only at hi hp; refine W.seq ?_; refine W.sO tb_ok ?_; refine W.rowLen 80 rfl fun hlen => ?_; refine W.if_ _ rfl (fun e => W.skip ?_) (fun e => W.exit ?_)
  case refine_1 =>
    obtain ⟨h1, h2⟩ := of_decide_eq_true (sum_cond e); refine W.seq (W.block ?_); refine W.rO tb_ok ?_; refine W.rO tb_ok ?_; refine ⟨(i + 1, gSym n (D.getD i (K.zero kSym))), ⟨h1, by rw [← hp, sum_in (K.zero kSym) h1 h2]⟩, Le.to [0] hcx rfl ⟨?_, rfl, rfl, rfl, rfl⟩, by show _ - (i + 1) < _ - i; omega⟩; show S.ren _ (S.one (.int .i64 (IntKind.i64.wrap (↑i + 1)))) = _; rw [IntWalk.i64_in _ (by omega)]; rfl
  have hn : n = (sumUp gSym (sumUp gVal (sumUp gItem (w64 (w64 (w64 (w64 (A.length + B.length) + D.length) + E.length) + w64 (Int.tdiv (txtW E) 8))) A) B) D) := by rw [← hp]; exact (sum_out e).symm
  clear e hp hi; subst hn; refine W.sO tb_ok ?_; exact W.ret (endL1 (tb := tb) (n0 := 0) rfl rfl rfl rfl)
theorem o54 (lS : List ByteArray) (lU : List kUnit.T) : CallStep Tryz.prog 54 [.agg [.row 9 .str lS, .row 122 kUnit lU]] [] (.one (.bool (heavy12 lS lU))) [] := by
  refine CallStep.intro' (n := 34) (n0 := 0) (rs := [.tmp 2]) tb_ok Tryz.func54 (by kernel_rfl) rfl rfl rfl rfl rfl fun cx hcx => ?_; refine W.sO tb_ok ?_; have q0_ := o85 lS; refine W.aO [9] tb_ok ?_; refine W.seq ?_; refine W.sO tb_ok ?_; refine W.block (W.loop (fun p : Nat × Int => ⟨[(4, .one (.int .i64 p.1)), (3, .one (.int .i64 p.2)), (1, .one (.ptr 0 0))], [.box 31 [.row 9 .str lS, .row 122 kUnit lU]], 34⟩) (fun p => lU.length - p.1) (fun p => p.1 ≤ lU.length ∧ sumUp gUnit p.2 (lU.drop p.1) = (sumUp gUnit (w64 (lU.length + w64 (Int.tdiv (txtW lS) 16))) lU)) (0, (w64 (lU.length + w64 (Int.tdiv (txtW lS) 16)))) ⟨Nat.zero_le _, rfl⟩ (Le.to [0] hcx rfl ⟨rfl, rfl, rfl, rfl, rfl⟩) fun p hp => ?_); obtain ⟨i, n⟩ := p; obtain ⟨hi, hp⟩ := hp; simp only at hi hp; refine W.seq ?_; refine W.sO tb_ok ?_; refine W.rowLen 15 rfl fun hlen => ?_; refine W.if_ _ rfl (fun e => W.skip ?_) (fun e => W.exit ?_)
  case refine_1 =>
    obtain ⟨h1, h2⟩ := of_decide_eq_true (sum_cond e); refine W.seq (W.block ?_); have h86 := o86 (lU.getD i (K.zero kUnit)); refine W.rO tb_ok ?_; refine W.rO tb_ok ?_; refine ⟨(i + 1, gUnit n (lU.getD i (K.zero kUnit))), ⟨h1, by rw [← hp, sum_in (K.zero kUnit) h1 h2]⟩, Le.to [0] hcx rfl ⟨?_, rfl, rfl, rfl, rfl⟩, by show _ - (i + 1) < _ - i; omega⟩; show S.ren _ (S.one (.int .i64 (IntKind.i64.wrap (↑i + 1)))) = _; rw [IntWalk.i64_in _ (by omega)]; rfl
  have hn : n = (sumUp gUnit (w64 (lU.length + w64 (Int.tdiv (txtW lS) 16))) lU) := by rw [← hp]; exact (sum_out e).symm
  clear e hp hi; subst hn; refine W.sO tb_ok ?_; exact W.ret (endL1 (tb := tb) (n0 := 0) rfl rfl rfl rfl)
theorem o28 (lS : List ByteArray) (lU : List kUnit.T) (lB : List kBlk.T) : CallStep Tryz.prog 28 [.agg [.row 9 .str lS, .row 122 kUnit lU, .row 41 kBlk lB]] [] (.one (.bool (heavy13 lS lU lB))) [] := by
  refine CallStep.intro' (n := 43) (n0 := 0) (rs := [.tmp 2]) tb_ok Tryz.func28 (by kernel_rfl) rfl rfl rfl rfl rfl fun cx hcx => ?_; refine W.sO tb_ok ?_; refine W.sO tb_ok ?_; refine W.seq ?_; refine W.sO tb_ok ?_; refine W.block (W.loop (fun p : Nat × Int => ⟨[(4, .one (.int .i64 p.1)), (3, .one (.int .i64 p.2)), (1, .one (.ptr 0 0))], [.box 34 [.row 9 .str lS, .row 122 kUnit lU, .row 41 kBlk lB]], 43⟩) (fun p => lB.length - p.1) (fun p => p.1 ≤ lB.length ∧ sumUp gBlk p.2 (lB.drop p.1) = (sumUp gBlk lB.length lB)) (0, lB.length) ⟨Nat.zero_le _, rfl⟩ (Le.to [0] hcx rfl ⟨rfl, rfl, rfl, rfl, rfl⟩) fun p hp => ?_); obtain ⟨i, n⟩ := p; obtain ⟨hi, hp⟩ := hp; simp only at hi hp; refine W.seq ?_; refine W.sO tb_ok ?_; refine W.rowLen 10 rfl fun hlen => ?_; refine W.if_ _ rfl (fun e => W.skip ?_) (fun e => W.exit ?_)
  case refine_1 =>
    obtain ⟨h1, h2⟩ := of_decide_eq_true (sum_cond e); refine W.seq (W.block ?_); refine W.bO [17, 1] tb_ok ?_; refine W.rO tb_ok ?_; refine ⟨(i + 1, gBlk n (lB.getD i (K.zero kBlk))), ⟨h1, by rw [← hp, sum_in (K.zero kBlk) h1 h2]⟩, Le.to [0] hcx rfl ⟨?_, rfl, rfl, rfl, rfl⟩, by show _ - (i + 1) < _ - i; omega⟩; show S.ren _ (S.one (.int .i64 (IntKind.i64.wrap (↑i + 1)))) = _; rw [IntWalk.i64_in _ (by omega)]; rfl
  have hn : n = (sumUp gBlk lB.length lB) := by rw [← hp]; exact (sum_out e).symm
  clear e hp hi; subst hn; have q0_ := o54 lS lU; refine W.sO tb_ok ?_; exact W.ret (endL1 (tb := tb) (n0 := 0) rfl rfl rfl rfl)
theorem o27 (lI : List kIns.T) (x0 x1 x2 x3 x4 : Int) (x5 : ByteArray) (lN : List Int) : CallStep Tryz.prog 27 [.agg [.row 24 kIns lI, .int .i64 x0, .int .i64 x1, .int .i64 x2, .int .i64 x3, .int .i64 x4, .str x5, .row 3 kI lN]] [] (.one (.bool (heavy14 lI lN))) [] := by
  refine CallStep.intro' (n := 11) (n0 := 0) (rs := [.tmp 2]) tb_ok Tryz.func27 (by kernel_rfl) rfl rfl rfl rfl rfl fun cx hcx => ?_; refine W.sO tb_ok ?_; have q0_ := o53 lI; refine W.aO [9] tb_ok ?_; exact W.ret (endL1 (tb := tb) (n0 := 0) rfl rfl rfl rfl)
theorem o5 (lI : List kIns.T) (x0 x1 x2 x3 x4 : Int) (x5 : ByteArray) (lN : List Int) (lS : List ByteArray) (lU : List kUnit.T) (lB : List kBlk.T) (lC : List kBun.T) : CallStep Tryz.prog 5 [.agg [.row 24 kIns lI, .int .i64 x0, .int .i64 x1, .int .i64 x2, .int .i64 x3, .int .i64 x4, .str x5, .row 3 kI lN, .row 9 .str lS, .row 122 kUnit lU, .row 41 kBlk lB, .row 62 kBun lC]] [] (.one (.bool (heavy15 lI lN lS lU lB lC))) [] := by
  refine CallStep.intro' (n := 17) (n0 := 0) (rs := [.tmp 2]) tb_ok Tryz.func5 (by kernel_rfl) rfl rfl rfl rfl rfl fun cx hcx => ?_; refine W.sO tb_ok ?_; have q0_ := o27 lI x0 x1 x2 x3 x4 x5 lN; have q1_ := o28 lS lU lB; refine W.sO tb_ok ?_; exact W.ret (endL1 (tb := tb) (n0 := 0) rfl rfl rfl rfl)
theorem light13 : ∀ (lB : List kBlk.T) (n : Int), 0 ≤ n → (∀ b ∈ lB, b.1.length ≤ 1000000000000000 ∧ b.2.1.length ≤ 1000000000000000) → sumUp gBlk n lB ≤ 400 → n ≤ 400 ∧ ∀ b ∈ lB, b.1.length ≤ 400 ∧ b.2.1.length ≤ 400
  | [], n, h0, hb, h => ⟨h, fun b hm => by cases hm⟩
  | b :: lB, n, h0, hb, h => by
    rw [sumUp] at h; split at h
    · rename_i hn
      have h1 := hb b List.mem_cons_self
      have hg : gBlk n b = n + b.1.length + b.2.1.length := by
        unfold gBlk w64; rw [IntWalk.i64_in (n + b.1.length) (by omega), IntWalk.i64_in _ (by omega)]
      have ih := light13 lB (gBlk n b) (by omega) (fun c hc => hb c (List.mem_cons_of_mem _ hc)) h; refine ⟨by omega, fun c hc => ?_⟩; rcases List.mem_cons.1 hc with rfl | hc
      · omega
      · exact ih.2 c hc
    · omega
theorem light15 {lI : List kIns.T} {lN : List Int} {lS : List ByteArray} {lU : List kUnit.T} {lB : List kBlk.T} {lC : List kBun.T} (hb : ∀ b ∈ lB, b.1.length ≤ 1000000000000000 ∧ b.2.1.length ≤ 1000000000000000) (h : heavy15 lI lN lS lU lB lC = false) : lC.length ≤ 100 ∧ lB.length ≤ 400 ∧ ∀ b ∈ lB, b.1.length ≤ 400 ∧ b.2.1.length ≤ 400 := by
  unfold heavy15 heavy13 at h; have h1 : ¬ (lC.length : Int) > 100 := fun hx => by rw [decide_eq_true hx] at h; cases h
  rw [decide_eq_false h1] at h
  cases h14 : heavy14 lI lN with
  | true => rw [h14] at h; cases h
  | false =>
    rw [h14] at h; have h2 : ¬ sumUp gBlk lB.length lB > 400 := fun hx => by rw [decide_eq_true hx] at h; cases h
    have h3 := light13 lB lB.length (by omega) hb (by omega); exact ⟨by omega, by omega, h3.2⟩
end Go.Den
end
section
-- the texts that this claim needs, out of this session's and its print's (wip/shrink.py)
namespace Go.Den
open Go Go.RowKit Go.Proofs Go.Proofs.YtibfkkjkahpobaaGreatW.PrintWords Go.Proofs.YtibfkkjkahpobaaGreat.PDag
def rdF (E : List S100) (a : List Int) (i : Nat) (c : Int) (j : Nat) : Bool := (E.drop j).all fun e => e.f1 != (i : Int) || (decide (0 ≤ rd a e.f0) && decide (rd a e.f0 + e.f2 ≤ c))
theorem rdF_cond (t i r d c : Int) : (bif t == i then (bif decide (r < 0) then true else decide (r + d > c)) else false) = !(t != i || (decide (0 ≤ r) && decide (r + d ≤ c))) := by
  by_cases h1 : t = i
  · by_cases h2 : r < 0
    · simp [h1, h2]
    · by_cases h3 : r + d ≤ c
      · simp [h1, h2, h3, show 0 ≤ r by omega, show ¬ r + d > c by omega]
      · simp [h1, h2, h3, show 0 ≤ r by omega, show r + d > c by omega]
  · have hb : (t == i) = false := by simpa using h1
    simp [bne, hb]
theorem o47 (l : List S24) (hn : l.length ≤ 200) (a : List Int) (hal : a.length = l.length) (hup : ∀ i : Nat, i < l.length → -1 ≤ rd a i ∧ rd a i ≤ 1000) (i : Nat) (c : Int) :
    CallStep Tryz.prog 47 [.one (.row 100 kE ((edges l).map f100)), .one (.row 3 kI a), .one (.int .i64 i), .one (.int .i64 c)] [] (.one (.bool (rdy (edges l) a i c))) [] := by
  have hfew := edges_few l hn; have hE : ((edges l).map f100).length = (edges l).length := List.length_map ..; refine CallStep.intro' (n := 52) (n0 := 0) (rs := [.tmp 8]) tb_ok Tryz.func47 (by kernel_rfl) rfl rfl rfl rfl rfl fun cx hcx => ?_; refine W.sO tb_ok ?_; refine W.seq ?_; refine W.sO tb_ok ?_; refine W.block (W.loop (fun j : Nat => ⟨[(9, .one (.int .i64 j)), (0, .one (.row 100 kE ((edges l).map f100))), (1, .one (.row 3 kI a)), (2, .one (.int .i64 i)), (3, .one (.int .i64 c))], [], 52⟩) (fun j => (edges l).length - j) (fun j => j ≤ (edges l).length ∧ rdF (edges l) a i c j = rdy (edges l) a i c) 0 ⟨Nat.zero_le _, rfl⟩ (Le.to [] hcx rfl ⟨rfl, rfl, rfl, rfl, rfl, rfl, rfl⟩) fun j hj => ?_); obtain ⟨hj, hr⟩ := hj; refine W.seq ?_; refine W.sO tb_ok ?_; refine W.if_ _ rfl (fun e => W.skip ?_) (fun e => W.exit ?_)
  case refine_2 =>
    have hj2 : j = (edges l).length := by have := of_decide_eq_false e; omega
    subst hj2; refine W.sO tb_ok ?_; refine W.ret (endL1 (tb := tb) (n0 := 0) ?_ rfl rfl rfl); rw [← hr, rdF, List.drop_of_length_le (Nat.le_refl _)]; rfl
  have ej : j < (edges l).length := by have := of_decide_eq_true e; omega
  obtain ⟨x, t, ex, et, hxt, htn⟩ := edges_range l _ _ _ (List.getElem_mem ej); have hd := edges_dist l _ (List.getElem_mem ej); have hu := hup x (by omega); have hq1 : ((edges l).map f100).getD j (K.zero kE) = ((x : Int), (t : Int), (edges l)[j].f2, ()) := by rw [at100 _ j ej, ← ex, ← et]; rfl
  have hq2 : 0 ≤ (((edges l).map f100).getD j (K.zero kE)).1 := by rw [hq1]; exact Int.natCast_nonneg x
  have hq3 : (((edges l).map f100).getD j (K.zero kE)).1 < (a.length : Int) := by rw [hq1]; show (x : Int) < _; omega
  have hq4 : Int.toNat (((edges l).map f100).getD j (K.zero kE)).1 < a.length := by rw [hq1]; show Int.toNat (x : Int) < _; omega
  have hcond : (bif (((edges l).map f100).getD j (K.zero kE)).2.1 == (i : Int) then (bif decide (a.getD (Int.toNat (((edges l).map f100).getD j (K.zero kE)).1) (K.zero kI) < 0) then true else decide (IntKind.i64.wrap (a.getD (Int.toNat (((edges l).map f100).getD j (K.zero kE)).1) (K.zero kI) + (((edges l).map f100).getD j (K.zero kE)).2.2.1) > c)) else false) = !((edges l)[j].f1 != (i : Int) || (decide (0 ≤ rd a (edges l)[j].f0) && decide (rd a (edges l)[j].f0 + (edges l)[j].f2 ≤ c))) := by
    rw [hq1, ex, et, ← rdF_cond]; show (bif (t : Int) == (i : Int) then (bif decide (rd a (x : Int) < 0) then true else decide (IntKind.i64.wrap (rd a (x : Int) + (edges l)[j].f2) > c)) else false) = _; rw [IntWalk.i64_in _ (by omega)]
  have hstep : rdF (edges l) a i c j = (((edges l)[j].f1 != (i : Int) || (decide (0 ≤ rd a (edges l)[j].f0) && decide (rd a (edges l)[j].f0 + (edges l)[j].f2 ≤ c))) && rdF (edges l) a i c (j + 1)) := by
    unfold rdF; rw [List.drop_eq_getElem_cons ej, List.all_cons]
  refine W.seq (W.block ?_); refine W.aO [36] tb_ok ?_; refine W.if_ _ rfl (fun h => ?_) (fun h => W.skip ?_)
  · have h1 := hcond.symm.trans h; rw [show rdy (edges l) a i c = false by rw [← hr, hstep]; cases hb : ((edges l)[j].f1 != (i : Int) || (decide (0 ≤ rd a (edges l)[j].f0) && decide (rd a (edges l)[j].f0 + (edges l)[j].f2 ≤ c))); rfl; rw [hb] at h1; cases h1]; refine W.sO tb_ok ?_; exact W.ret (endL1 (tb := tb) (n0 := 0) rfl rfl rfl rfl)
  · have h1 := hcond.symm.trans h; refine W.rO tb_ok ?_; refine ⟨j + 1, ⟨ej, ?_⟩, Le.to [] hcx rfl ⟨?_, rfl, rfl, rfl, rfl, rfl, rfl⟩, by omega⟩
    · rw [← hr, hstep]; cases hb : ((edges l)[j].f1 != (i : Int) || (decide (0 ≤ rd a (edges l)[j].f0) && decide (rd a (edges l)[j].f0 + (edges l)[j].f2 ≤ c))); rw [hb] at h1; cases h1; rfl
    · show S.ren _ (S.one (.int .i64 (IntKind.i64.wrap (↑j + 1)))) = _; rw [IntWalk.i64_in _ (by omega)]; rfl
end Go.Den
end
section
-- the texts that this claim needs, out of this session's and its print's (wip/shrink.py)
namespace Go.Den
open Go Go.RowKit Go.Proofs Go.Proofs.YtibfkkjkahpobaaGreatW.PrintWords Go.Proofs.YtibfkkjkahpobaaGreat.PDag
def bst (l : List S24) (x : PSt) (c s : Int) (i : Nat) : Int := bestUp (cand (mayAt l) (edges l) x.at_ c s) (urges l) (heights l) i
theorem cand_cond (m a r : Bool) : (bif (bif a then true else !m) then true else !r) = !(m && (!a && r)) := by cases m <;> cases a <;> cases r <;> rfl
theorem better_cond (a b e h : Bool) : (bif (bif a then true else b) then true else bif e then h else false) = (a || (b || (e && h))) := by cases a <;> cases b <;> cases e <;> cases h <;> rfl
def cycOrd : OT := (.alt 0 (.alt 1 (.alt 2 (.alt 3 (.alt 4 (.alt 5 (.alt 6 (.alt 7 .done .none) .none) (.alt 6 (.alt 5 (.alt 7 .done .none) .none) .none)) (.alt 6 (.alt 4 (.alt 5 (.alt 7 .done .none) .none) .none) .none)) (.alt 6 (.alt 3 (.alt 4 (.alt 5 (.alt 7 .done .none) .none) .none) .none) .none)) (.alt 3 (.alt 2 (.alt 4 (.alt 5 (.alt 6 (.alt 7 .done .none) .none) (.alt 6 (.alt 5 (.alt 7 .done .none) .none) .none)) (.alt 6 (.alt 4 (.alt 5 (.alt 7 .done .none) .none) .none) .none)) (.alt 4 (.alt 2 (.alt 5 (.alt 6 (.alt 7 .done .none) .none) (.alt 6 (.alt 5 (.alt 7 .done .none) .none) .none)) (.alt 5 (.alt 2 (.alt 6 (.alt 7 .done .none) .none) .none) .none)) .none)) .none)) (.alt 3 (.alt 1 (.alt 2 (.alt 4 (.alt 5 (.alt 6 (.alt 7 .done .none) .none) (.alt 6 (.alt 5 (.alt 7 .done .none) .none) .none)) (.alt 6 (.alt 4 (.alt 5 (.alt 7 .done .none) .none) .none) .none)) (.alt 4 (.alt 2 (.alt 5 (.alt 6 (.alt 7 .done .none) .none) (.alt 6 (.alt 5 (.alt 7 .done .none) .none) .none)) (.alt 5 (.alt 2 (.alt 6 (.alt 7 .done .none) .none) .none) .none)) .none)) (.alt 4 (.alt 1 (.alt 2 (.alt 5 (.alt 6 (.alt 7 .done .none) .none) (.alt 6 (.alt 5 (.alt 7 .done .none) .none) .none)) (.alt 5 (.alt 2 (.alt 6 (.alt 7 .done .none) .none) .none) .none)) (.alt 5 (.alt 1 (.alt 2 (.alt 6 (.alt 7 .done .none) .none) .none) .none) .none)) .none)) .none)) (.alt 3 (.alt 0 (.alt 1 (.alt 2 (.alt 4 (.alt 5 (.alt 6 (.alt 7 .done .none) .none) (.alt 6 (.alt 5 (.alt 7 .done .none) .none) .none)) (.alt 6 (.alt 4 (.alt 5 (.alt 7 .done .none) .none) .none) .none)) (.alt 4 (.alt 2 (.alt 5 (.alt 6 (.alt 7 .done .none) .none) (.alt 6 (.alt 5 (.alt 7 .done .none) .none) .none)) (.alt 5 (.alt 2 (.alt 6 (.alt 7 .done .none) .none) .none) .none)) .none)) (.alt 4 (.alt 1 (.alt 2 (.alt 5 (.alt 6 (.alt 7 .done .none) .none) (.alt 6 (.alt 5 (.alt 7 .done .none) .none) .none)) (.alt 5 (.alt 2 (.alt 6 (.alt 7 .done .none) .none) .none) .none)) (.alt 5 (.alt 1 (.alt 2 (.alt 6 (.alt 7 .done .none) .none) .none) .none) .none)) .none)) (.alt 4 (.alt 0 (.alt 1 (.alt 2 (.alt 5 (.alt 6 (.alt 7 .done .none) .none) (.alt 6 (.alt 5 (.alt 7 .done .none) .none) .none)) (.alt 5 (.alt 2 (.alt 6 (.alt 7 .done .none) .none) .none) .none)) (.alt 5 (.alt 1 (.alt 2 (.alt 6 (.alt 7 .done .none) .none) .none) .none) .none)) (.alt 5 (.alt 0 (.alt 1 (.alt 2 (.alt 6 (.alt 7 .done .none) .none) .none) .none) .none) .none)) .none)) .none))
theorem o13 (l : List S24) (hm : mayL l = true) : CallStep Tryz.prog 13 [.one (.row 24 kIns (l.map f24))] [] (.tup [(false, [.row 3 kI (cycF l).at_]), (false, [.row 3 kI (cycF l).sl])]) [] := by
  have hn := (mayL_parts hm).1; have ho := mayL_ok hm; have hL : (l.map f24).length = l.length := List.length_map ..; have hUl := urges_len l; have hHl := heights_len l; have h43 := (o43 l hn ho).froz (s' := .one (.row 3 kI (heights l))) rfl; have h44 := (o44 l hn ho).froz (s' := .one (.row 3 kI (urges l))) rfl; have h45 := (o45 l hn ho).froz (s' := .one (.row 100 kE ((edges l).map f100))) rfl; have hb0 : rowB 8 (l.map f24).length := by rw [hL]; show _ * _ ≤ _; omega
  refine CallStep.froz (s := .tup [(false, [.own 0]), (false, [.own 1])]) (H1 := [.row 3 kI (cycF l).at_, .row 3 kI (cycF l).sl]) ?_ rfl; refine CallStep.intro' (n := 125) (n0 := 0) (rs := [.tmp 2, .tmp 3]) tb_ok Tryz.func13 (by kernel_rfl) rfl rfl rfl rfl rfl fun cx hcx => ?_; refine W.sO tb_ok ?_; refine W.seqO cycOrd ⟨[(0, .one (.row 24 kIns (l.map f24))), (4, .one (.own 0)), (5, .one (.own 1))], [.row 3 kI (List.replicate (l.map f24).length (0 : Int)), .row 3 kI (List.replicate (l.map f24).length (0 : Int))], 125⟩ tb_ok rfl (by kernel_rfl) (by (repeat' first | dsimp [cycOrd] | simp only [castRow_self] | apply And.intro) <;> first | rfl | trivial | assumption | omega | (intros; and_intros <;> first | rfl | trivial | assumption | omega) | exact Le.to [2, 3] hcx rfl ⟨rfl, rfl, rfl, rfl, rfl⟩ | exact Le.to [3, 2] hcx rfl ⟨rfl, rfl, rfl, rfl, rfl⟩) ?_; refine W.seq ?_; refine W.sO tb_ok ?_; refine W.block (W.loop (fun i : Nat => ⟨[(6, .one (.int .i64 i)), (0, .one (.row 24 kIns (l.map f24))), (4, .one (.own 0)), (5, .one (.own 1))], [.row 3 kI (List.replicate i (-1) ++ List.replicate (l.length - i) (0 : Int)), .row 3 kI (List.replicate l.length (0 : Int))], 125⟩) (fun i => l.length - i) (fun i => i ≤ l.length) 0 (Nat.zero_le _) (Le.to [0, 1] hcx rfl ⟨rfl, rfl, rfl, rfl, by rw [hL]; rfl, rfl⟩) fun i hi => ?_); have hal0 : (List.replicate i (-1) ++ List.replicate (l.length - i) (0 : Int)).length = l.length := by rw [List.length_append, List.length_replicate, List.length_replicate]; omega
  refine W.seq ?_; refine W.sO tb_ok ?_; refine W.if_ _ rfl (fun e => W.skip ?_) (fun e => W.exit ?_)
  · have e := of_decide_eq_true e; refine W.seq (W.block ?_); refine W.rO tb_ok ?_; refine W.rO tb_ok ?_; refine ⟨i + 1, by omega, Le.to [0, 1] hcx rfl ⟨?_, rfl, rfl, rfl, ?_, rfl⟩, by omega⟩
    · show S.ren _ (S.one (.int .i64 (IntKind.i64.wrap (↑i + 1)))) = _; rw [IntWalk.i64_in _ (by omega)]; rfl
    · have : (List.replicate i (-1) ++ List.replicate (l.length - i) (0 : Int)).set i (-1) = List.replicate (i + 1) (-1) ++ List.replicate (l.length - (i + 1)) (0 : Int) := by
        rw [List.set_append_right _ _ (by simp), List.length_replicate, Nat.sub_self, show l.length - i = (l.length - (i + 1)) + 1 by omega, List.replicate_succ, List.set_cons_zero, List.replicate_succ', List.append_assoc]; rfl
      rw [← this]; rfl
  have hi2 : i = l.length := by have := of_decide_eq_false e; omega
  subst hi2; rw [Nat.sub_self, List.replicate_zero, List.append_nil]; refine W.sO tb_ok ?_; refine W.sO tb_ok ?_; refine W.seq ?_; refine W.sO tb_ok ?_; refine W.block (W.loop (fun p : Nat × Nat × PSt => ⟨[(10, .one (.int .i64 p.2.2.left)), (11, .one (.int .i64 p.2.1)), (4, .one (.own 0)), (5, .one (.own 1)), (0, .one (.row 24 kIns (l.map f24))), (7, .one (.row 3 kI (heights l))), (8, .one (.row 3 kI (urges l))), (9, .one (.row 100 kE ((edges l).map f100)))], [.row 3 kI p.2.2.at_, .row 3 kI p.2.2.sl], 125⟩) (fun p => p.1) (fun p => PGood l.length ((p.2.1 : Int) - 1) p.2.2 ∧ p.2.1 + p.1 ≤ 1000 ∧ Go.Proofs.YtibfkkjkahpobaaGreat.PDag.runN (mayAt l) l.length (edges l) (urges l) (heights l) p.1 p.2.1 p.2.2 = cycF l) (4 * l.length, 0, x0F l.length) ⟨good0 l.length, by show 0 + 4 * l.length ≤ 1000; omega, rfl⟩ (Le.to [0, 1] hcx rfl ⟨by rw [hL]; rfl, rfl, rfl, rfl, rfl, rfl, rfl, rfl, rfl, rfl⟩) fun p hp => ?_); obtain ⟨f, c, x⟩ := p; obtain ⟨hg, hc, hrun⟩ := hp; simp only at hg hc hrun; refine W.seq ?_; refine W.sO tb_ok ?_; refine W.if_ _ rfl (fun e => W.skip ?_) (fun e => W.exit ?_)
  case refine_2 =>
    have e := of_decide_eq_false e; rw [run_done _ _ _ (by omega)] at hrun; subst hrun; refine W.sO tb_ok ?_; exact W.ret ⟨trivial, [0, 1], rfl, rfl, rfl⟩
  have e0 := of_decide_eq_true e; have hf : f ≠ 0 := fun hf => by subst hf; have := (cycF_ends ho).1; rw [← hrun] at this; have this : x.left = 0 := this; omega
  obtain ⟨f, rfl⟩ : ∃ f', f = f' + 1 := ⟨f - 1, by omega⟩
  have e1 : 0 < x.left := by omega
  rw [Go.Proofs.YtibfkkjkahpobaaGreat.PDag.runN, if_pos e1] at hrun; have g0 : PGood l.length (c : Int) x := hg.later (by omega); have g4 : PGood l.length (c : Int) (cycStep (mayAt l) l.length (edges l) (urges l) (heights l) x c) := cyc_good g0 (Int.natCast_nonneg c); refine W.seq (W.block ?_); refine W.sO tb_ok ?_; refine W.block (W.loop (fun s : Nat => ⟨[(10, .one (.int .i64 (atSlot (mayAt l) l.length (edges l) (urges l) (heights l) (c : Int) s x).left)), (11, .one (.int .i64 c)), (12, .one (.int .i64 s)), (4, .one (.own 0)), (5, .one (.own 1)), (0, .one (.row 24 kIns (l.map f24))), (7, .one (.row 3 kI (heights l))), (8, .one (.row 3 kI (urges l))), (9, .one (.row 100 kE ((edges l).map f100)))], [.row 3 kI (atSlot (mayAt l) l.length (edges l) (urges l) (heights l) (c : Int) s x).at_, .row 3 kI (atSlot (mayAt l) l.length (edges l) (urges l) (heights l) (c : Int) s x).sl], 125⟩) (fun s => 4 - s) (fun s => s ≤ 4) 0 (Nat.zero_le _) (Le.to [0, 1] hcx rfl ⟨rfl, rfl, rfl, rfl, rfl, rfl, rfl, rfl, rfl, rfl, rfl⟩) fun s hs => ?_); refine W.seq ?_; refine W.sO tb_ok ?_; refine W.if_ _ rfl (fun e => W.skip ?_) (fun e => W.exit ?_)
  case refine_2 =>
    have e := of_decide_eq_false e; obtain rfl : s = 4 := by omega
    rw [atSlot_four]; refine W.rO tb_ok ?_; refine ⟨(f, c + 1, cycStep (mayAt l) l.length (edges l) (urges l) (heights l) x c), ⟨by rw [show (((c + 1 : Nat) : Int) - 1) = (c : Int) by omega]; exact g4, by show c + 1 + f ≤ 1000; omega, by rw [← hrun, Int.natCast_succ]⟩, Le.to [0, 1] hcx rfl ⟨rfl, ?_, rfl, rfl, rfl, rfl, rfl, rfl, rfl, rfl⟩, Nat.lt_succ_self f⟩; show S.ren _ (S.one (.int .i64 (IntKind.i64.wrap (↑c + 1)))) = _; rw [IntWalk.i64_in _ (by omega)]; rfl
  have es : s < 4 := by have := of_decide_eq_true e; omega
  have hnext := atSlot_succ (mayAt l) l.length (edges l) (urges l) (heights l) (c : Int) s es x; have gy : PGood l.length (c : Int) (atSlot (mayAt l) l.length (edges l) (urges l) (heights l) (c : Int) s x) := fold_good (Int.natCast_nonneg c) _ x g0 (four4_mem _ s); have hnext2 : ∀ y : PSt, y = atSlot (mayAt l) l.length (edges l) (urges l) (heights l) (c : Int) s x → (atSlot (mayAt l) l.length (edges l) (urges l) (heights l) (c : Int) (s + 1) x = slotStep (mayAt l) l.length (edges l) (urges l) (heights l) y ((c : Int), (s : Int))) := fun y hy => by rw [hnext, hy]
  generalize atSlot (mayAt l) l.length (edges l) (urges l) (heights l) (c : Int) s x = y at gy hnext2 ⊢; have hnext := hnext2 y rfl; clear hnext2; have hya := gy.len; have hys := gy.len2; have hyl := gy.left; have hyo : opens_ y.at_ ≤ y.at_.length := List.countP_le_length; refine W.seq (W.block ?_); refine W.sO tb_ok ?_; refine W.seq ?_; refine W.sO tb_ok ?_; refine W.block (W.loop (fun i : Nat => ⟨[(10, .one (.int .i64 y.left)), (11, .one (.int .i64 c)), (12, .one (.int .i64 s)), (13, .one (.int .i64 (bst l y c s i))), (14, .one (.int .i64 i)), (4, .one (.own 0)), (5, .one (.own 1)), (0, .one (.row 24 kIns (l.map f24))), (7, .one (.row 3 kI (heights l))), (8, .one (.row 3 kI (urges l))), (9, .one (.row 100 kE ((edges l).map f100)))], [.row 3 kI y.at_, .row 3 kI y.sl], 125⟩) (fun i => l.length - i) (fun i => i ≤ l.length) 0 (Nat.zero_le _) (Le.to [0, 1] hcx rfl ⟨rfl, rfl, rfl, rfl, rfl, rfl, rfl, rfl, rfl, rfl, rfl, rfl, rfl⟩) fun i hi => ?_)
  have hbr : bst l y c s i = -1 ∨ (0 ≤ bst l y c s i ∧ bst l y c s i < (l.length : Int)) := by
    rcases bestUp_range (cand (mayAt l) (edges l) y.at_ c s) (urges l) (heights l) i with h1 | ⟨j, h1, h2, _⟩
    · exact .inl h1
    · exact .inr (by show 0 ≤ bestUp _ _ _ _ ∧ bestUp _ _ _ _ < _; rw [h2]; omega)
  have hbs : bst l y c s (i + 1) = if (cand (mayAt l) (edges l) y.at_ c s i && better (urges l) (heights l) (bst l y c s i) i) = true then (i : Int) else bst l y c s i := rfl
  refine W.seq ?_; refine W.sO tb_ok ?_; refine W.if_ _ rfl (fun e => W.skip ?_) (fun e => W.exit ?_)
  case refine_2 =>
    have hi2 : i = l.length := by have := of_decide_eq_false e; omega
    subst hi2; unfold slotStep at hnext; have hbst : bestUp (cand (mayAt l) (edges l) y.at_ ((c : Int), (s : Int)).1 ((c : Int), (s : Int)).2) (urges l) (heights l) l.length = bst l y c s l.length := rfl; simp only [hbst] at hnext; generalize bst l y c s l.length = bb at hbr hnext ⊢; refine W.sO tb_ok ?_; refine W.if_ _ rfl (fun e2 => ?_) (fun e2 => W.skip ?_)
    · have e2 := of_decide_eq_true e2; rw [if_pos (by omega)] at hnext; have hbt : bb.toNat < y.at_.length := by omega
      have hbt2 : bb.toNat < y.sl.length := by omega
      have hbt3 : 0 ≤ bb := by omega
      refine W.sO tb_ok ?_; refine W.rO tb_ok ?_; refine W.rO tb_ok ?_; refine ⟨s + 1, es, Le.to [0, 1] hcx rfl ⟨?_, rfl, ?_, rfl, rfl, rfl, rfl, rfl, rfl, ?_, rfl⟩, by omega⟩
      · show S.ren _ (S.one (.int .i64 (IntKind.i64.wrap (y.left - 1)))) = _; rw [IntWalk.i64_in _ (by omega), hnext]; rfl
      · show S.ren _ (S.one (.int .i64 (IntKind.i64.wrap (↑s + 1)))) = _; rw [IntWalk.i64_in _ (by omega)]; rfl
      · rw [hnext]; rfl
    · have e2 := of_decide_eq_false e2; rw [if_neg (by omega)] at hnext; refine W.rO tb_ok ?_; refine ⟨s + 1, es, Le.to [0, 1] hcx rfl ⟨by rw [hnext]; rfl, rfl, ?_, rfl, rfl, rfl, rfl, rfl, rfl, by rw [hnext]; rfl, rfl⟩, by omega⟩; show S.ren _ (S.one (.int .i64 (IntKind.i64.wrap (↑s + 1)))) = _; rw [IntWalk.i64_in _ (by omega)]; rfl
  have ei : i < l.length := by have := of_decide_eq_true e; omega
  have hop := okI_op (okA_L ho i ei); have hwi : IntKind.i64.wrap ((i : Int) + 1) = ((i + 1 : Nat) : Int) := IntWalk.i64_in _ (by omega); have h46 := o46 ((l.map f24).getD i (K.zero kIns)).1 (s : Int) (by rw [at24 l i ei]; exact hop) (by omega); rw [show mayOp ((l.map f24).getD i (K.zero kIns)).1 (s : Int) = mayAt l i s by rw [at24 l i ei]; rfl] at h46; have h47 := o47 l hn y.at_ hya (fun j hj => ⟨(gy.up j hj).1, Int.le_trans (gy.up j hj).2 (by omega)⟩) i (c : Int); refine W.seq (W.block ?_); refine W.seq ?_; refine W.sO tb_ok ?_
  have hcc : (bif (bif decide (y.at_.getD i (K.zero kI) ≥ 0) then true else !mayAt l i s) then true else !rdy (edges l) y.at_ i c) = !cand (mayAt l) (edges l) y.at_ c s i := by
    rw [cand_cond]; unfold cand; rw [show (!decide (y.at_.getD i (K.zero kI) ≥ 0)) = decide (rd y.at_ (i : Int) < 0) by rw [← decide_not]; exact decide_eq_decide.2 Int.not_le]
  refine W.if_ _ rfl (fun e3 => W.exit ?_) (fun e3 => W.skip ?_)
  · have e4 := hcc.symm.trans e3; rw [Bool.not_eq_true'] at e4; rw [e4, Bool.false_and, if_neg Bool.false_ne_true] at hbs; refine W.rO tb_ok ?_; refine ⟨i + 1, ei, Le.to [0, 1] hcx rfl ⟨rfl, rfl, rfl, ?_, ?_, rfl, rfl, rfl, rfl, rfl, rfl, rfl, rfl⟩, by omega⟩
    · rw [hbs]; rfl
    · show S.ren _ (S.one (.int .i64 (IntKind.i64.wrap (↑i + 1)))) = _; rw [hwi]; rfl
  have e4 := hcc.symm.trans e3; rw [Bool.not_eq_false'] at e4; rw [e4, Bool.true_and] at hbs; generalize bst l y c s i = bb at hbr hbs ⊢; have hg0 : decide (bb < 0) = false → 0 ≤ bb ∧ bb < (l.length : Int) := fun h => by have := of_decide_eq_false h; omega
  have hg1 : (!decide (bb < 0)) = true → 0 ≤ bb ∧ bb < (l.length : Int) := fun h => hg0 (by rw [Bool.not_eq_true'] at h; exact h); have hg2 : (!bif decide (bb < 0) then true else decide ((urges l).getD i (K.zero kI) < (urges l).getD bb.toNat (K.zero kI))) = true → 0 ≤ bb ∧ bb < (l.length : Int) := fun h => hg0 (by cases hd : decide (bb < 0); rfl; rw [hd] at h; cases h); have hg3 : ((!bif decide (bb < 0) then true else decide ((urges l).getD i (K.zero kI) < (urges l).getD bb.toNat (K.zero kI))) && ((urges l).getD i (K.zero kI) == (urges l).getD bb.toNat (K.zero kI))) = true → 0 ≤ bb ∧ bb < (l.length : Int) := fun h => hg2 (by rw [Bool.and_eq_true] at h; exact h.1); refine W.seqA [35] tb_ok rfl rfl _ (by (repeat' first | dsimp | simp only [castRow_self] | apply And.intro) <;> first | rfl | trivial | assumption | omega | (intros; and_intros <;> first | rfl | trivial | assumption | omega) | (intro h; rw [h]; rfl) | (intro h; have h1 : 0 ≤ bb ∧ bb < (l.length : Int) := (by first | exact hg1 h | exact hg2 h | exact hg3 h); and_intros <;> first | exact h | trivial | omega | (intro h2; first | trivial | (rw [h, h2]; rfl)))) ?_; have hbe : (bif (bif decide (bb < 0) then true else decide ((urges l).getD i (K.zero kI) < (urges l).getD bb.toNat (K.zero kI))) then true else bif ((urges l).getD i (K.zero kI) == (urges l).getD bb.toNat (K.zero kI)) then decide ((heights l).getD i (K.zero kI) > (heights l).getD bb.toNat (K.zero kI)) else false) = better (urges l) (heights l) bb i := better_cond _ _ _ _; refine W.if_ _ rfl (fun e5 => ?_) (fun e5 => W.skip ?_)
  · rw [if_pos (hbe.symm.trans e5)] at hbs; refine W.rO tb_ok ?_; refine W.rO tb_ok ?_; refine ⟨i + 1, ei, Le.to [0, 1] hcx rfl ⟨rfl, rfl, rfl, ?_, ?_, rfl, rfl, rfl, rfl, rfl, rfl, rfl, rfl⟩, by omega⟩
    · rw [hbs]; rfl
    · show S.ren _ (S.one (.int .i64 (IntKind.i64.wrap (↑i + 1)))) = _; rw [hwi]; rfl
  · rw [if_neg (by rw [← hbe]; exact fun h => Bool.false_ne_true (e5.symm.trans h))] at hbs; refine W.rO tb_ok ?_; refine ⟨i + 1, ei, Le.to [0, 1] hcx rfl ⟨rfl, rfl, rfl, ?_, ?_, rfl, rfl, rfl, rfl, rfl, rfl, rfl, rfl⟩, by omega⟩
    · rw [hbs]; rfl
    · show S.ren _ (S.one (.int .i64 (IntKind.i64.wrap (↑i + 1)))) = _; rw [hwi]; rfl
end Go.Den
end
section
-- the texts that this claim needs, out of this session's and its print's (wip/shrink.py)
namespace Go.Den
open Go Go.RowKit Go.Proofs Go.Proofs.YtibfkkjkahpobaaGreatW.PrintWords Go.Proofs.YtibfkkjkahpobaaGreat.PDag
theorem bif_and (a b : Bool) : (bif a then b else false) = (a && b) := by cases a <;> rfl
theorem o42 (at_ sl : List Int) (c : Int) (hl : at_.length = sl.length) (hn : at_.length ≤ 1000000) : CallStep Tryz.prog 42 [.one (.row 3 kI at_), .one (.row 3 kI sl), .one (.int .i64 c)] [] (.one (.bool (takenUp at_ sl c 0 at_.length))) [] := by
  refine CallStep.intro' (n := 27) (n0 := 0) (rs := [.tmp 6]) tb_ok Tryz.func42 (by kernel_rfl) rfl rfl rfl rfl rfl fun cx hcx => ?_; refine W.sO tb_ok ?_; refine W.seq ?_; refine W.sO tb_ok ?_; refine W.block (W.loop (fun i : Nat => ⟨[(7, .one (.int .i64 i)), (0, .one (.row 3 kI at_)), (1, .one (.row 3 kI sl)), (2, .one (.int .i64 c))], [], 27⟩) (fun i => at_.length - i) (fun i => i ≤ at_.length ∧ takenUp at_ sl c 0 i = false) 0 ⟨Nat.zero_le _, rfl⟩ (Le.to [] hcx rfl ⟨rfl, rfl, rfl, rfl, rfl, rfl⟩) fun i hi => ?_); obtain ⟨hi, ht⟩ := hi; refine W.seq ?_; refine W.sO tb_ok ?_; refine W.if_ _ rfl (fun e => W.skip ?_) (fun e => W.exit ?_)
  case refine_2 =>
    have hi2 : i = at_.length := by have := of_decide_eq_false e; omega
    subst hi2; refine W.sO tb_ok ?_; refine W.ret (endL1 (tb := tb) (n0 := 0) ?_ rfl rfl rfl); rw [ht]; rfl
  have ei : i < at_.length := by have := of_decide_eq_true e; omega
  have ei2 : i < sl.length := by omega
  refine W.seq (W.block ?_); refine W.sO tb_ok ?_; refine W.if_ _ rfl (fun h => ?_) (fun h => W.skip ?_)
  · have h1 : (rd at_ (i : Int) == c && rd sl (i : Int) == 0) = true := (bif_and _ _).symm.trans h; rw [takenUp_at at_ sl c 0 i h1 _ ei]; refine W.sO tb_ok ?_; exact W.ret (endL1 (tb := tb) (n0 := 0) rfl rfl rfl rfl)
  · have h1 : (rd at_ (i : Int) == c && rd sl (i : Int) == 0) = false := (bif_and _ _).symm.trans h; refine W.rO tb_ok ?_; refine ⟨i + 1, ⟨ei, by rw [takenUp, ht, h1]; rfl⟩, Le.to [] hcx rfl ⟨?_, rfl, rfl, rfl, rfl, rfl⟩, by omega⟩; show S.ren _ (S.one (.int .i64 (IntKind.i64.wrap (↑i + 1)))) = _; rw [IntWalk.i64_in _ (by omega)]; rfl
theorem hmx (a b : Int) : max a b = mx a b := by unfold mx; rw [Int.max_def]; split <;> split <;> omega
theorem rds_cond {x y : S24} (dy : 0 ≤ y.f1) {r : Int} (q : decide (r ≥ 0) = (readsL x).any (fun r => wOf y == r)) : (bif decide (wOf y ≥ 0) then decide (r ≥ 0) else false) = rdsP x y := by
  rw [q]; unfold rdsP wOf
  cases hasD (formOf y.f0) <;> simp [dy]
theorem o41 (l : List S24) (hn : l.length ≤ 200) (ho : okA l) (x : S24) (hx : 0 ≤ x.f0 ∧ x.f0 ≤ 33) (at_ : List Int) (ha : at_.length = l.length) :
    CallStep Tryz.prog 41 [.one (.row 24 kIns (l.map f24)), .agg (kIns.flat (f24 x)), .one (.row 3 kI at_)] [] (.one (.int .i64 (lastOf l x at_))) [] := by
  have hL : (l.map f24).length = l.length := List.length_map ..; have ox := o80 x.f0 hx; refine CallStep.intro' (n := 84) (n0 := 0) (rs := [.tmp 6]) tb_ok Tryz.func41 (by kernel_rfl) rfl rfl rfl rfl rfl fun cx hcx => ?_; refine W.sO tb_ok ?_; refine W.seq ?_; refine W.sO tb_ok ?_; refine W.if_ _ rfl (fun e => ?_) (fun e => W.skip ?_)
  · have e : x.f0 = 0 := eq_of_beq e; refine W.sO tb_ok ?_; refine W.ret (endL1 (tb := tb) (n0 := 0) ?_ rfl rfl rfl); rw [lastOf, if_pos e]; rfl
  have e0 : ¬ x.f0 = 0 := fun h => by have e : (x.f0 == 0) = false := e; rw [h] at e; cases e
  have hlo : lastOf l x at_ = lastUp l at_ x l.length 0 0 := by rw [lastOf, if_neg e0]
  refine W.sO tb_ok ?_; refine W.sO tb_ok ?_; refine W.seq ?_; refine W.sO tb_ok ?_; refine W.block (W.loop (fun p : Nat × Int => ⟨[(7, .one (.int .i64 p.2)), (8, .one (.bool (x.f0 == 33))), (9, .one (.int .i64 p.1)), (0, .one (.row 24 kIns (l.map f24))), (2, .one (.row 3 kI at_)), (4, .one (.ptr 0 0))], [.box 24 (kIns.flat (f24 x))], 84⟩) (fun p => l.length - p.1) (fun p => p.1 ≤ l.length ∧ lastUp l at_ x (l.length - p.1) p.1 p.2 = lastOf l x at_) (0, 0) ⟨Nat.zero_le _, hlo.symm⟩ (Le.to [0] hcx rfl ⟨rfl, rfl, rfl, rfl, rfl, rfl, rfl, rfl⟩) fun p hp => ?_); obtain ⟨i, n⟩ := p; obtain ⟨hi, hr⟩ := hp; simp only at hi hr; refine W.seq ?_; refine W.sO tb_ok ?_; refine W.if_ _ rfl (fun e => W.skip ?_) (fun e => W.exit ?_)
  case refine_2 =>
    have hi2 : i = l.length := by have := of_decide_eq_false e; omega
    subst hi2; rw [Nat.sub_self, lastUp] at hr; subst hr; refine W.sO tb_ok ?_; exact W.ret (endL1 (tb := tb) (n0 := 0) rfl rfl rfl rfl)
  have ei : i < l.length := by have := of_decide_eq_true e; omega
  rw [show l.length - i = (l.length - (i + 1)) + 1 by omega, lastUp] at hr; have hy := at24 l i ei; have hoy := okA_L ho i ei; generalize J24 l i = y at hy hoy hr; have oy := okI_op hoy; have dy := okI_d hoy; have h40 := o40 ((l.map f24).getD i (K.zero kIns)).1 (by rw [hy]; exact oy); rw [show lateOp ((l.map f24).getD i (K.zero kIns)).1 = lateOp y.f0 by rw [hy]; rfl] at h40; have h80 := o80 ((l.map f24).getD i (K.zero kIns)).1 (by rw [hy]; exact oy); rw [show effOp ((l.map f24).getD i (K.zero kIns)).1 = effOp y.f0 by rw [hy]; rfl] at h80; have h77 := o77 (g24 ((l.map f24).getD i (K.zero kIns))) (by rw [hy]; exact oy); rw [show wOf (g24 ((l.map f24).getD i (K.zero kIns))) = wOf y by rw [hy]; rfl] at h77; obtain ⟨r, e1, q1⟩ := in_eq (Nat.le_refl 5) x (wOf y); have hea : i < at_.length := by omega
  refine W.seq (W.block ?_); refine W.aO [12] tb_ok ?_; refine W.seq ?_; refine W.sO tb_ok ?_; have q0_ := o79 x hx; have q1_ := o78 (readsL x) (wOf y) r e1; refine W.sO tb_ok ?_; generalize hd1 : step1 x y (rd at_ (i : Int)) n = n1 at hr; unfold step1 at hd1; refine W.ifJ ⟨[(7, .one (.int .i64 n1)), (8, .one (.bool (x.f0 == 33))), (9, .one (.int .i64 i)), (0, .one (.row 24 kIns (l.map f24))), (2, .one (.row 3 kI at_)), (4, .one (.ptr 0 0)), (10, .one (.int .i64 (rd at_ (i : Int)))), (11, .one (.int .i64 (lateOp y.f0)))], [.box 24 (kIns.flat (f24 x))], 84⟩ _ rfl (fun e => ?_) (fun e => W.skip ?_) ?_
  · rw [if_pos ((rds_cond dy q1).symm.trans e)] at hd1; subst hd1; rw [← hmx, ← Go.Proofs.YtibfkkjkahpobaaGreatW.PrintLast.i64_w]; refine W.rO tb_ok ?_; exact Le.to [0] hcx rfl ⟨rfl, rfl, rfl, rfl, rfl, rfl, rfl, rfl, rfl, rfl⟩
  · rw [if_neg (fun h => Bool.false_ne_true (((rds_cond dy q1).symm.trans e).symm.trans h))] at hd1; subst hd1; exact Le.to [0] hcx rfl ⟨rfl, rfl, rfl, rfl, rfl, rfl, rfl, rfl, rfl, rfl⟩
  refine W.seq ?_; refine W.sO tb_ok ?_; have hc2 : (bif x.f0 == 33 then true else bif effOp x.f0 then effOp y.f0 else false) = (decide (x.f0 = 33) || (effOp x.f0 && effOp y.f0)) := by rw [show (x.f0 == 33) = decide (x.f0 = 33) from rfl]; cases decide (x.f0 = 33) <;> cases effOp x.f0 <;> cases effOp y.f0 <;> rfl
  generalize hd2 : step2 x y (rd at_ (i : Int)) n1 = n2 at hr; unfold step2 at hd2; refine W.ifJ ⟨[(7, .one (.int .i64 n2)), (8, .one (.bool (x.f0 == 33))), (9, .one (.int .i64 i)), (0, .one (.row 24 kIns (l.map f24))), (2, .one (.row 3 kI at_)), (4, .one (.ptr 0 0)), (10, .one (.int .i64 (rd at_ (i : Int)))), (11, .one (.int .i64 (lateOp y.f0)))], [.box 24 (kIns.flat (f24 x))], 84⟩ _ rfl (fun e => ?_) (fun e => W.skip ?_) ?_
  · rw [if_pos (hc2.symm.trans e)] at hd2; subst hd2; rw [← hmx, ← Go.Proofs.YtibfkkjkahpobaaGreatW.PrintLast.i64_w]; refine W.rO tb_ok ?_; exact Le.to [0] hcx rfl ⟨rfl, rfl, rfl, rfl, rfl, rfl, rfl, rfl, rfl, rfl⟩
  · rw [if_neg (fun h => Bool.false_ne_true ((hc2.symm.trans e).symm.trans h))] at hd2; subst hd2; exact Le.to [0] hcx rfl ⟨rfl, rfl, rfl, rfl, rfl, rfl, rfl, rfl, rfl, rfl⟩
  refine W.sO tb_ok ?_; generalize hd3 : step3 x y (rd at_ (i : Int)) n2 = n3 at hr; unfold step3 at hd3; refine W.if_ _ rfl (fun e => ?_) (fun e => W.skip ?_)
  · rw [if_neg (fun h => by have e : (!(x.f0 == 33)) = true := e; rw [h] at e; cases e)] at hd3; refine W.rO tb_ok ?_; refine W.rO tb_ok ?_; refine ⟨(i + 1, n3), ⟨ei, hr⟩, Le.to [0] hcx rfl ⟨?_, rfl, ?_, rfl, rfl, rfl, rfl, rfl⟩, by show _ - (i + 1) < _ - i; omega⟩
    · rw [← hd3, ← hmx, ← hmx, ← Go.Proofs.YtibfkkjkahpobaaGreatW.PrintLast.i64_w, ← Go.Proofs.YtibfkkjkahpobaaGreatW.PrintLast.i64_w, ← Go.Proofs.YtibfkkjkahpobaaGreatW.PrintLast.i64_w, ← Go.Proofs.YtibfkkjkahpobaaGreatW.PrintLast.i64_w]; rfl
    · show S.ren _ (S.one (.int .i64 (IntKind.i64.wrap (↑i + 1)))) = _; rw [IntWalk.i64_in _ (by omega)]; rfl
  · rw [if_pos (by have e : (!(x.f0 == 33)) = false := e; rw [Bool.not_eq_false'] at e; exact eq_of_beq e)] at hd3; subst hd3; refine W.rO tb_ok ?_; refine ⟨(i + 1, n2), ⟨ei, hr⟩, Le.to [0] hcx rfl ⟨rfl, rfl, ?_, rfl, rfl, rfl, rfl, rfl⟩, by show _ - (i + 1) < _ - i; omega⟩
    · show S.ren _ (S.one (.int .i64 (IntKind.i64.wrap (↑i + 1)))) = _; rw [IntWalk.i64_in _ (by omega)]; rfl
end Go.Den
end
