import Derived.Test.YtibfkkjkahpobaaGreatFt30
import Derived.Test.YtibfkkjkahpobaaGreatFt31
import Derived.Test.YtibfkkjkahpobaaGreatFt32
set_option linter.unusedVariables false
set_option linter.unusedSimpArgs false
set_option maxHeartbeats 8000000
set_option maxRecDepth 100000
section
-- the texts that this claim needs, out of this session's and its print's (wip/shrink.py)
namespace Go.Den
open Go Go.RowKit Go.Proofs Go.Proofs.YtibfkkjkahpobaaGreatW.PrintWords Go.Proofs.YtibfkkjkahpobaaGreat.PDag
def gl (m : Int → Int → Int) (val : S100 → Int → Int) (l : List S24) (i q : Nat) (h : List Int) : List Int := h.set i (gfold m val h (((edges l).drop q).filter (fun e => e.f0 == (i : Int))) (rd h (i : Int)))
theorem at100 (E : List S100) (q : Nat) (h : q < E.length) : (E.map f100).getD q (K.zero kE) = f100 E[q] := by
  rw [List.getD_eq_getElem?_getD, List.getElem?_map, List.getElem?_eq_getElem h]; rfl
section
variable {m : Int → Int → Int} {val : S100 → Int → Int} {l : List S24} {i q : Nat} {h : List Int}
theorem edge_to (hq : q < (edges l).length) (h0 : (edges l)[q].f0 = (i : Int)) : ∃ t : Nat, (edges l)[q].f1 = (t : Int) ∧ i < t ∧ t < l.length := by
  obtain ⟨a, t, ea, et, h3, h4⟩ := edges_range l _ _ _ (List.getElem_mem hq); exact ⟨t, et, by omega, h4⟩
theorem gl_hit (hi : i < h.length) (hq : q < (edges l).length) (h0 : (edges l)[q].f0 = (i : Int)) : gl m val l i (q + 1) (h.set i (m (rd h (i : Int)) (val (edges l)[q] (rd h (edges l)[q].f1)))) = gl m val l i q h := by
  unfold gl; rw [List.drop_eq_getElem_cons hq, List.filter_cons_of_pos (by simpa using h0)]
  exact gfold_step h i _ _ hi fun e he => by
    obtain ⟨h1, h2⟩ := List.mem_filter.1 he; obtain ⟨a, t, ea, et, h3, h4⟩ := edges_range l _ _ e (List.mem_of_mem_drop h1); have h2 : e.f0 = (i : Int) := by simpa using h2
    exact ⟨t, et, by omega⟩
theorem gl_miss (hq : q < (edges l).length) (h0 : ¬ (edges l)[q].f0 = (i : Int)) : gl m val l i (q + 1) h = gl m val l i q h := by
  unfold gl; rw [List.drop_eq_getElem_cons hq, List.filter_cons_of_neg (by simpa using h0)]
theorem gl_end (hi : i < h.length) : gl m val l i (edges l).length h = h := by
  unfold gl gfold; rw [List.drop_of_length_le (Nat.le_refl _), List.filter_nil, List.foldl_nil, set_rd _ _ hi]
theorem gl_out {init : List Int} {v : Int} (hi : i < l.length) (hl : h.length = l.length) (hI : init.length = l.length) (ha : ∀ t : Nat, i + 1 ≤ t → t < l.length → rd h (t : Int) = rd (gAt m val init l (l.length - (i + 1))) (t : Int)) (hv : v = rd init (i : Int)) :
    ∀ t : Nat, i ≤ t → t < l.length → rd (gl m val l i 0 (h.set i v)) (t : Int) = rd (gAt m val init l (l.length - i)) (t : Int) := by
  have hf : (edges l).filter (fun e => e.f0 == (i : Int)) = edgesFrom l i := by
    unfold edges; rw [edgesUp_filter, if_pos (by omega)]
  have hg := gAt_len m val init l (l.length - (i + 1)); unfold gl; rw [List.drop_zero, hf, show l.length - i = (l.length - (i + 1)) + 1 by omega, gAt_succ, show l.length - (l.length - (i + 1) + 1) = i by omega]; exact same_from l h _ i _ (by omega) hl (by omega) (fun t h1 h2 => ha t (by omega) h2) (by rw [gAt_below m val init l _ i (by omega), hv])
end
theorem o43 (l : List S24) (hn : l.length ≤ 200) (ho : okA l) : CallStep Tryz.prog 43 [.one (.row 24 kIns (l.map f24))] [] (.one (.own 0)) [.row 3 kI (heights l)] := by
  have hL : (l.map f24).length = l.length := List.length_map ..; have hfew := edges_few l hn; have hE : ((edges l).map f100).length = (edges l).length := List.length_map ..; have hb0 : rowB 8 (l.map f24).length := by rw [hL]; show _ * _ ≤ _; omega
  have hI : (lates l).length = l.length := by unfold lates; rw [List.length_map]
  refine CallStep.intro' (n := 64) (n0 := 0) (rs := [.tmp 2]) tb_ok Tryz.func43 (by kernel_rfl) rfl rfl rfl rfl rfl fun cx hcx => ?_; refine W.sO tb_ok ?_; refine W.sO tb_ok ?_; have q0_ := o45 l hn ho; refine W.sO tb_ok ?_; refine W.seq ?_; refine W.sO tb_ok ?_; refine W.block (W.loop (fun p : Nat × List Int => ⟨[(5, .one (.int .i64 ((p.1 : Int) - 1))), (3, .one (.own 0)), (4, .one (.own 1)), (0, .one (.row 24 kIns (l.map f24)))], [.row 3 kI p.2, .row 100 kE ((edges l).map f100)], 64⟩) (fun p => p.1) (fun p => p.1 ≤ l.length ∧ p.2.length = l.length ∧ ∀ t : Nat, p.1 ≤ t → t < l.length → rd p.2 (t : Int) = rd (gAt max hval (lates l) l (l.length - p.1)) (t : Int)) (l.length, List.replicate l.length 0) ⟨Nat.le_refl _, List.length_replicate, fun t h1 h2 => absurd h2 (by omega)⟩ (Le.to [1, 2] hcx rfl ⟨?_, rfl, rfl, rfl, ?_, rfl⟩) fun p hp => ?_)
  · show S.ren _ (S.one (.int .i64 (IntKind.i64.wrap (((l.map f24).length : Int) - 1)))) = _; rw [IntWalk.i64_in _ (by omega), hL]; rfl
  · rw [hL]; rfl
  obtain ⟨i, h⟩ := p; obtain ⟨hi, hl, ha⟩ := hp; simp only at hi hl ha
  cases i with
  | zero =>
    refine W.seq ?_; refine W.sO tb_ok ?_; refine W.if_ _ rfl (fun e => absurd (of_decide_eq_true e) (by show ¬ (0 : Int) ≤ -1; omega)) (fun e => W.exit ?_); refine W.sO tb_ok ?_; have hh : h = heights l := ext_rd h _ l.length hl (by rw [heights, gAt_len]; exact hI) (fun t ht => ha t (by omega) ht); subst hh
    exact W.ret ⟨trivial, [0], rfl, rfl, rfl⟩
  | succ i =>
  rw [show (((i + 1 : Nat) : Int) - 1) = (i : Int) by omega]; refine W.seq ?_; refine W.sO tb_ok ?_; refine W.if_ _ rfl (fun e => W.skip ?_) (fun e => absurd (of_decide_eq_false e) (by show ¬ ¬ (0 : Int) ≤ (i : Int); omega)); have hop := okI_op (okA_L ho i (by omega)); refine W.seq (W.block ?_); have h40 := o40 ((l.map f24).getD i (K.zero kIns)).1 (by rw [at24 l i (by omega)]; exact hop); have hv : lateOp ((l.map f24).getD i (K.zero kIns)).1 = rd (lates l) (i : Int) := by rw [at24 l i (by omega), lates_at l i (by omega)]; rfl
  rw [hv] at h40; refine W.sO tb_ok ?_; refine W.sO tb_ok ?_; generalize hh : gl max hval l i 0 (h.set i (rd (lates l) (i : Int))) = H; refine W.block (W.loop (fun q : Nat × List Int => ⟨[(5, .one (.int .i64 i)), (6, .one (.int .i64 q.1)), (3, .one (.own 0)), (4, .one (.own 1)), (0, .one (.row 24 kIns (l.map f24)))], [.row 3 kI q.2, .row 100 kE ((edges l).map f100)], 64⟩) (fun q => (edges l).length - q.1) (fun q => q.1 ≤ (edges l).length ∧ q.2.length = l.length ∧ gl max hval l i q.1 q.2 = H) (0, h.set i (rd (lates l) (i : Int))) ⟨Nat.zero_le _, by rw [List.length_set]; exact hl, hh⟩ (Le.to [0, 1] hcx rfl ⟨rfl, rfl, rfl, rfl, rfl, rfl, rfl⟩) fun q hq => ?_); obtain ⟨q, g⟩ := q; obtain ⟨hq, hgl, hgH⟩ := hq; simp only at hq hgl hgH; refine W.seq ?_; refine W.sO tb_ok ?_; refine W.if_ _ rfl (fun e => W.skip ?_) (fun e => W.exit ?_)
  case refine_2 =>
    have hj2 : q = (edges l).length := by have := of_decide_eq_false e; omega
    subst hj2; rw [gl_end (by omega)] at hgH; subst hgH; refine W.rO tb_ok ?_; refine ⟨(i, g), ⟨by show i ≤ _; omega, hgl, fun t h1 h2 => ?_⟩, Le.to [0, 1] hcx rfl ⟨?_, rfl, rfl, rfl, rfl, rfl⟩, Nat.lt_succ_self i⟩
    · show rd g (t : Int) = _; rw [← hh]; exact gl_out (by omega) hl hI ha rfl t h1 h2
    · show S.ren _ (S.one (.int .i64 (IntKind.i64.wrap (↑i - 1)))) = _; rw [IntWalk.i64_in _ (by omega)]; rfl
  have ej : q < (edges l).length := by have := of_decide_eq_true e; omega
  have hwj : IntKind.i64.wrap ((q : Int) + 1) = ((q + 1 : Nat) : Int) := IntWalk.i64_in _ (by omega); have hE1 := at100 (edges l) q ej; refine W.seq (W.block ?_); refine W.sO tb_ok ?_; refine W.if_ _ rfl (fun h0 => ?_) (fun h0 => W.skip ?_)
  · have h1 : (edges l)[q].f0 = (i : Int) := by rw [hE1] at h0; exact eq_of_beq h0
    obtain ⟨t, ht, ht1, ht2⟩ := edge_to ej h1; have hq1 : ((edges l).map f100).getD q (K.zero kE) = ((i : Int), (t : Int), (edges l)[q].f2, ()) := by rw [hE1, ← h1, ← ht]; rfl
    have hq2 : 0 ≤ (((edges l).map f100).getD q (K.zero kE)).2.1 := by rw [hq1]; exact Int.natCast_nonneg t
    have hq3 : (((edges l).map f100).getD q (K.zero kE)).2.1 < (g.length : Int) := by rw [hq1]; show (t : Int) < _; omega
    have hq4 : Int.toNat (((edges l).map f100).getD q (K.zero kE)).2.1 < g.length := by rw [hq1]; show Int.toNat (t : Int) < _; omega
    refine W.bO [22, 1] tb_ok ?_; refine W.rO tb_ok ?_; refine ⟨(q + 1, g.set i (max (rd g (i : Int)) (hval (edges l)[q] (rd g (edges l)[q].f1)))), ⟨ej, by show List.length _ = _; rw [List.length_set]; exact hgl, (gl_hit (by omega) ej h1).trans hgH⟩, Le.to [0, 1] hcx rfl ⟨rfl, ?_, rfl, rfl, rfl, ?_, rfl⟩, by show _ - (q + 1) < _ - q; omega⟩
    · show S.ren _ (S.one (.int .i64 (IntKind.i64.wrap (↑q + 1)))) = _; rw [hwj]; rfl
    · rw [hq1, ht]; unfold hval; rw [← Go.Proofs.YtibfkkjkahpobaaGreatW.PrintLast.i64_w]; rfl
  · have h1 : ¬ (edges l)[q].f0 = (i : Int) := by rw [hE1] at h0; exact fun h2 => absurd (beq_iff_eq.2 h2) (by rw [show ((edges l)[q].f0 == (i : Int)) = false from h0]; exact Bool.false_ne_true)
    refine W.rO tb_ok ?_; refine ⟨(q + 1, g), ⟨ej, hgl, (gl_miss ej h1).trans hgH⟩, Le.to [0, 1] hcx rfl ⟨rfl, ?_, rfl, rfl, rfl, rfl, rfl⟩, by show _ - (q + 1) < _ - q; omega⟩; show S.ren _ (S.one (.int .i64 (IntKind.i64.wrap (↑q + 1)))) = _; rw [hwj]; rfl
theorem o44 (l : List S24) (hn : l.length ≤ 200) (ho : okA l) : CallStep Tryz.prog 44 [.one (.row 24 kIns (l.map f24))] [] (.one (.own 0)) [.row 3 kI (urges l)] := by
  have hL : (l.map f24).length = l.length := List.length_map ..; have hfew := edges_few l hn; have hE : ((edges l).map f100).length = (edges l).length := List.length_map ..; have hb0 : rowB 8 (l.map f24).length := by rw [hL]; show _ * _ ≤ _; omega
  have hI : (firsts l.length 0 l).length = l.length := firsts_len _ _ _; refine CallStep.intro' (n := 64) (n0 := 0) (rs := [.tmp 2]) tb_ok Tryz.func44 (by kernel_rfl) rfl rfl rfl rfl rfl fun cx hcx => ?_; refine W.sO tb_ok ?_; refine W.sO tb_ok ?_; have q0_ := o45 l hn ho; refine W.sO tb_ok ?_; refine W.seq ?_; refine W.sO tb_ok ?_; refine W.block (W.loop (fun p : Nat × List Int => ⟨[(5, .one (.int .i64 ((p.1 : Int) - 1))), (3, .one (.own 0)), (4, .one (.own 1)), (0, .one (.row 24 kIns (l.map f24)))], [.row 3 kI p.2, .row 100 kE ((edges l).map f100)], 64⟩) (fun p => p.1) (fun p => p.1 ≤ l.length ∧ p.2.length = l.length ∧ ∀ t : Nat, p.1 ≤ t → t < l.length → rd p.2 (t : Int) = rd (gAt min uval (firsts l.length 0 l) l (l.length - p.1)) (t : Int)) (l.length, List.replicate l.length 0) ⟨Nat.le_refl _, List.length_replicate, fun t h1 h2 => absurd h2 (by omega)⟩ (Le.to [1, 2] hcx rfl ⟨?_, rfl, rfl, rfl, ?_, rfl⟩) fun p hp => ?_)
  · show S.ren _ (S.one (.int .i64 (IntKind.i64.wrap (((l.map f24).length : Int) - 1)))) = _; rw [IntWalk.i64_in _ (by omega), hL]; rfl
  · rw [hL]; rfl
  obtain ⟨i, h⟩ := p; obtain ⟨hi, hl, ha⟩ := hp; simp only at hi hl ha
  cases i with
  | zero =>
    refine W.seq ?_; refine W.sO tb_ok ?_; refine W.if_ _ rfl (fun e => absurd (of_decide_eq_true e) (by show ¬ (0 : Int) ≤ -1; omega)) (fun e => W.exit ?_); refine W.sO tb_ok ?_; have hh : h = urges l := ext_rd h _ l.length hl (by rw [urges, gAt_len]; exact hI) (fun t ht => ha t (by omega) ht); subst hh
    exact W.ret ⟨trivial, [0], rfl, rfl, rfl⟩
  | succ i =>
  rw [show (((i + 1 : Nat) : Int) - 1) = (i : Int) by omega]; refine W.seq ?_; refine W.sO tb_ok ?_; refine W.if_ _ rfl (fun e => W.skip ?_) (fun e => absurd (of_decide_eq_false e) (by show ¬ ¬ (0 : Int) ≤ (i : Int); omega)); have hop := okI_op (okA_L ho i (by omega)); refine W.seq (W.block ?_); have h80 := o80 ((l.map f24).getD i (K.zero kIns)).1 (by rw [at24 l i (by omega)]; exact hop); have hv : (if effOp ((l.map f24).getD i (K.zero kIns)).1 = true then (i : Int) else ((l.map f24).length : Int)) = rd (firsts l.length 0 l) (i : Int) := by rw [at24 l i (by omega), hL, firsts_at _ 0 l i (by omega), Nat.zero_add]; rfl
  refine W.sO tb_ok ?_; have hls : (h.set i ((l.map f24).length : Int)).length = l.length := by rw [List.length_set]; exact hl
  refine W.seq ?_; refine W.sO tb_ok ?_; refine W.ifJ ⟨[(5, .one (.int .i64 i)), (3, .one (.own 0)), (4, .one (.own 1)), (0, .one (.row 24 kIns (l.map f24)))], [.row 3 kI (h.set i (rd (firsts l.length 0 l) (i : Int))), .row 100 kE ((edges l).map f100)], 64⟩ _ rfl (fun e => ?_) (fun e => W.skip ?_) ?_
  · rw [if_pos e] at hv; rw [← hv]; refine W.rO tb_ok ?_; exact Le.to [0, 1] hcx rfl ⟨rfl, rfl, rfl, rfl, by show [Blk.row 3 kI ((h.set i ((l.map f24).length : Int)).set i (i : Int)), _] = _; rw [List.set_set]; rfl, rfl⟩
  · rw [if_neg (by rw [e]; exact Bool.false_ne_true)] at hv; rw [← hv]; exact Le.to [0, 1] hcx rfl ⟨rfl, rfl, rfl, rfl, rfl, rfl⟩
  refine W.sO tb_ok ?_; generalize hh : gl min uval l i 0 (h.set i (rd (firsts l.length 0 l) (i : Int))) = H; refine W.block (W.loop (fun q : Nat × List Int => ⟨[(5, .one (.int .i64 i)), (6, .one (.int .i64 q.1)), (3, .one (.own 0)), (4, .one (.own 1)), (0, .one (.row 24 kIns (l.map f24)))], [.row 3 kI q.2, .row 100 kE ((edges l).map f100)], 64⟩) (fun q => (edges l).length - q.1) (fun q => q.1 ≤ (edges l).length ∧ q.2.length = l.length ∧ gl min uval l i q.1 q.2 = H) (0, h.set i (rd (firsts l.length 0 l) (i : Int))) ⟨Nat.zero_le _, by rw [List.length_set]; exact hl, hh⟩ (Le.to [0, 1] hcx rfl ⟨rfl, rfl, rfl, rfl, rfl, rfl, rfl⟩) fun q hq => ?_); obtain ⟨q, g⟩ := q; obtain ⟨hq, hgl, hgH⟩ := hq; simp only at hq hgl hgH; refine W.seq ?_; refine W.sO tb_ok ?_; refine W.if_ _ rfl (fun e => W.skip ?_) (fun e => W.exit ?_)
  case refine_2 =>
    have hj2 : q = (edges l).length := by have := of_decide_eq_false e; omega
    subst hj2; rw [gl_end (by omega)] at hgH; subst hgH; refine W.rO tb_ok ?_; refine ⟨(i, g), ⟨by show i ≤ _; omega, hgl, fun t h1 h2 => ?_⟩, Le.to [0, 1] hcx rfl ⟨?_, rfl, rfl, rfl, rfl, rfl⟩, Nat.lt_succ_self i⟩
    · show rd g (t : Int) = _; rw [← hh]; exact gl_out (by omega) hl hI ha rfl t h1 h2
    · show S.ren _ (S.one (.int .i64 (IntKind.i64.wrap (↑i - 1)))) = _; rw [IntWalk.i64_in _ (by omega)]; rfl
  have ej : q < (edges l).length := by have := of_decide_eq_true e; omega
  have hwj : IntKind.i64.wrap ((q : Int) + 1) = ((q + 1 : Nat) : Int) := IntWalk.i64_in _ (by omega); have hE1 := at100 (edges l) q ej; refine W.seq (W.block ?_); refine W.sO tb_ok ?_; refine W.if_ _ rfl (fun h0 => ?_) (fun h0 => W.skip ?_)
  · have h1 : (edges l)[q].f0 = (i : Int) := by rw [hE1] at h0; exact eq_of_beq h0
    obtain ⟨t, ht, ht1, ht2⟩ := edge_to ej h1; have hq1 : ((edges l).map f100).getD q (K.zero kE) = ((i : Int), (t : Int), (edges l)[q].f2, ()) := by rw [hE1, ← h1, ← ht]; rfl
    have hq2 : 0 ≤ (((edges l).map f100).getD q (K.zero kE)).2.1 := by rw [hq1]; exact Int.natCast_nonneg t
    have hq3 : (((edges l).map f100).getD q (K.zero kE)).2.1 < (g.length : Int) := by rw [hq1]; show (t : Int) < _; omega
    have hq4 : Int.toNat (((edges l).map f100).getD q (K.zero kE)).2.1 < g.length := by rw [hq1]; show Int.toNat (t : Int) < _; omega
    refine W.bO [16, 1] tb_ok ?_; refine W.rO tb_ok ?_; refine ⟨(q + 1, g.set i (min (rd g (i : Int)) (uval (edges l)[q] (rd g (edges l)[q].f1)))), ⟨ej, by show List.length _ = _; rw [List.length_set]; exact hgl, (gl_hit (by omega) ej h1).trans hgH⟩, Le.to [0, 1] hcx rfl ⟨rfl, ?_, rfl, rfl, rfl, ?_, rfl⟩, by show _ - (q + 1) < _ - q; omega⟩
    · show S.ren _ (S.one (.int .i64 (IntKind.i64.wrap (↑q + 1)))) = _; rw [hwj]; rfl
    · rw [hq1, ht]; rfl
  · have h1 : ¬ (edges l)[q].f0 = (i : Int) := by rw [hE1] at h0; exact fun h2 => absurd (beq_iff_eq.2 h2) (by rw [show ((edges l)[q].f0 == (i : Int)) = false from h0]; exact Bool.false_ne_true)
    refine W.rO tb_ok ?_; refine ⟨(q + 1, g), ⟨ej, hgl, (gl_miss ej h1).trans hgH⟩, Le.to [0, 1] hcx rfl ⟨rfl, ?_, rfl, rfl, rfl, rfl, rfl⟩, by show _ - (q + 1) < _ - q; omega⟩; show S.ren _ (S.one (.int .i64 (IntKind.i64.wrap (↑q + 1)))) = _; rw [hwj]; rfl
end Go.Den
end
section
-- the texts that this claim needs, out of this session's and its print's (wip/shrink.py)
namespace Go.Den
open Go Go.RowKit Go.Proofs Go.Proofs.YtibfkkjkahpobaaGreatW.PrintWords Go.Proofs.YtibfkkjkahpobaaGreat.PDag
def rowS (n : Nat) (b : S62) (k : Nat) : List (Nat × Nat × S24) := (List.range k).filterMap fun s => if (slotB b s).f0 == 0 then none else some (n, s, slotB b s)
theorem rowS_succ (n : Nat) (b : S62) (k : Nat) : rowS n b (k + 1) = rowS n b k ++ (if (slotB b k).f0 == 0 then [] else [(n, k, slotB b k)]) := by
  unfold rowS; rw [List.range_succ, List.filterMap_append]; congr 1; rw [List.filterMap_cons]; split <;> rename_i h
  · split at h
    · rename_i h0; rw [if_pos h0]; rfl
    · cases h
  · split at h
    · cases h
    · rename_i h0; rw [if_neg h0]; obtain rfl := Option.some.inj h; rfl
def slTo (c : List S62) (n : Nat) : List (Nat × Nat × S24) := (List.range n).flatMap fun i : Nat => rowS i (J62 c i) 4
def slK (c : List S62) (n k : Nat) : List (Nat × Nat × S24) := slTo c n ++ rowS n (J62 c n) k
theorem slTo_succ (c : List S62) (n : Nat) : slTo c (n + 1) = slK c n 4 := by
  unfold slK slTo; rw [List.range_succ, List.flatMap_append]; simp
theorem slK_succ (c : List S62) (n k : Nat) : slK c n (k + 1) = slK c n k ++ (if (slotB (J62 c n) k).f0 == 0 then [] else [(n, k, slotB (J62 c n) k)]) := by
  unfold slK; rw [rowS_succ, List.append_assoc]
theorem slK_zero (c : List S62) (n : Nat) : slK c n 0 = slTo c n := by unfold slK rowS; simp
theorem slTo_mem (c : List S62) (n : Nat) : ∀ t ∈ slTo c n, t.1 < n := by
  intro t ht; unfold slTo at ht; obtain ⟨i, hi, h⟩ := List.mem_flatMap.1 ht; unfold rowS at h; obtain ⟨s, _, hs⟩ := List.mem_filterMap.1 h; split at hs
  · cases hs
  · obtain rfl := Option.some.inj hs; exact List.mem_range.1 hi
theorem slTo_le (c : List S62) (n : Nat) : ∀ d, ∃ T, slTo c (n + d) = slTo c n ++ T
  | 0 => ⟨[], by simp⟩
  | d + 1 => by
    obtain ⟨T, h⟩ := slTo_le c n d; refine ⟨T ++ rowS (n + d) (J62 c (n + d : Nat)) 4, ?_⟩; rw [show n + (d + 1) = (n + d) + 1 from rfl, slTo_succ, slK, h, List.append_assoc]
theorem slK_le (c : List S62) (n k : Nat) : ∀ d, ∃ T, slK c n (k + d) = slK c n k ++ T
  | 0 => ⟨[], by simp⟩
  | d + 1 => by
    obtain ⟨T, h⟩ := slK_le c n k d; rw [show k + (d + 1) = (k + d) + 1 from rfl, slK_succ, h, List.append_assoc]; exact ⟨_, rfl⟩
theorem slK_all (c : List S62) (n k : Nat) (hn : n < c.length) (hk : k ≤ 4) : ∃ T, slTo c c.length = slK c n k ++ T := by
  obtain ⟨T1, h1⟩ := slK_le c n k (4 - k); obtain ⟨T2, h2⟩ := slTo_le c (n + 1) (c.length - (n + 1)); rw [show n + 1 + (c.length - (n + 1)) = c.length by omega] at h2; rw [show k + (4 - k) = 4 by omega] at h1; exact ⟨T1 ++ T2, by rw [h2, slTo_succ, h1, List.append_assoc]⟩
theorem pgRun_none (l : List S24) (S T : List (Nat × Nat × S24)) (h : pgRun l S = none) : fitsR l (S ++ T) = false := by
  unfold fitsR
  have : pgRun l (S ++ T) = none := by
    unfold pgRun at h ⊢; rw [List.foldlM_append, h]; rfl
  rw [this]
theorem pg_len {l : List S24} {S : List (Nat × Nat × S24)} {a : List Int} (h : pgRun l S = some a) : a.length = l.length := by rw [((pg_all l S a).1 h).2, aOf_len]
theorem pg_bd {l : List S24} {c : List S62} {n : Nat} {a : List Int} (h : pgRun l (slTo c n) = some a) (i : Nat) (hi : i < l.length) : -1 ≤ rd a (i : Int) ∧ rd a (i : Int) < n := by
  rw [((pg_all l _ a).1 h).2, aOf_at _ _ _ hi]
  cases he : (occ (slTo c n) (J24 l i))[cntB l i]? with
  | none => exact ⟨by show (-1 : Int) ≤ -1; omega, by show (-1 : Int) < _; omega⟩
  | some p =>
    have := slTo_mem c n _ (occ_mem (List.mem_of_getElem? he)); exact ⟨by show (-1 : Int) ≤ (p.1 : Int); omega, by show (p.1 : Int) < _; omega⟩
theorem pick_cond (a b e : Bool) : (bif a then (bif b then true else !e) else false) = (a && !(!b && e)) := by cases a <;> cases b <;> cases e <;> rfl
theorem whole_slot {c : List S62} (h : wholeL c = true) (n s : Nat) (hn : n < c.length) (hs : s < 4) : okI (slotB (J62 c n) s) = true := by
  unfold wholeL at h; simp only [Bool.and_eq_true, List.all_eq_true] at h; have := h.2 (J62 c n) (by rw [show J62 c (n : Int) = c[n] by unfold J62; rw [Int.toNat_natCast, List.getD_eq_getElem?_getD, List.getElem?_eq_getElem hn]; rfl]; exact List.getElem_mem hn); unfold bunB at this; simp only [Bool.and_eq_true] at this; have h4 : s = 0 ∨ s = 1 ∨ s = 2 ∨ s = 3 := by omega
  rcases h4 with rfl | rfl | rfl | rfl
  · exact this.1
  · exact this.2.1
  · exact this.2.2.1
  · exact this.2.2.2
theorem o25 (l : List S24) (c : List S62) (hm : mayL l = true) (hw : wholeL c = true) : CallStep Tryz.prog 25 [.one (.row 24 kIns (l.map f24)), .one (.row 62 kBun (c.map f62))] [] (.one (.bool (fitsR l (slTo c c.length)))) [] := by
  have hn := (mayL_parts hm).1; have ho := mayL_ok hm; have hc : c.length ≤ 1024 := by unfold wholeL at hw; simp only [Bool.and_eq_true, decide_eq_true_eq] at hw; exact hw.1
  have hL : (l.map f24).length = l.length := List.length_map ..; have hC : (c.map f62).length = c.length := List.length_map ..; have hfew := edges_few l hn; have hE : ((edges l).map f100).length = (edges l).length := List.length_map ..; have hb0 : rowB 8 (l.map f24).length := by rw [hL]; show _ * _ ≤ _; omega
  have h45 := (o45 l hn ho).froz (s' := .one (.row 100 kE ((edges l).map f100))) rfl; refine CallStep.intro' (n := 123) (n0 := 0) (rs := [.tmp 4]) tb_ok Tryz.func25 (by kernel_rfl) rfl rfl rfl rfl rfl fun cx hcx => ?_; refine W.sO tb_ok ?_; refine W.sO tb_ok ?_; refine W.seq ?_; refine W.sO tb_ok ?_; refine W.block (W.loop (fun i : Nat => ⟨[(6, .one (.int .i64 i)), (5, .one (.own 0)), (0, .one (.row 24 kIns (l.map f24))), (1, .one (.row 62 kBun (c.map f62)))], [.row 3 kI (List.replicate i (-1) ++ List.replicate (l.length - i) (0 : Int))], 123⟩) (fun i => l.length - i) (fun i => i ≤ l.length) 0 (Nat.zero_le _) (Le.to [0] hcx rfl ⟨rfl, rfl, rfl, rfl, by rw [hL]; rfl, rfl⟩) fun i hi => ?_); have hal0 : (List.replicate i (-1) ++ List.replicate (l.length - i) (0 : Int)).length = l.length := by rw [List.length_append, List.length_replicate, List.length_replicate]; omega
  refine W.seq ?_; refine W.sO tb_ok ?_; refine W.if_ _ rfl (fun e => W.skip ?_) (fun e => W.exit ?_)
  · have e := of_decide_eq_true e; refine W.seq (W.block ?_); refine W.rO tb_ok ?_; refine W.rO tb_ok ?_; refine ⟨i + 1, by omega, Le.to [0] hcx rfl ⟨?_, rfl, rfl, rfl, ?_, rfl⟩, by omega⟩
    · show S.ren _ (S.one (.int .i64 (IntKind.i64.wrap (↑i + 1)))) = _; rw [IntWalk.i64_in _ (by omega)]; rfl
    · have : (List.replicate i (-1) ++ List.replicate (l.length - i) (0 : Int)).set i (-1) = List.replicate (i + 1) (-1) ++ List.replicate (l.length - (i + 1)) (0 : Int) := by
        rw [List.set_append_right _ _ (by simp), List.length_replicate, Nat.sub_self, show l.length - i = (l.length - (i + 1)) + 1 by omega, List.replicate_succ, List.set_cons_zero, List.replicate_succ', List.append_assoc]; rfl
      rw [← this]; rfl
  have hi2 : i = l.length := by have := of_decide_eq_false e; omega
  subst hi2; rw [Nat.sub_self, List.replicate_zero, List.append_nil]; refine W.seq ?_; refine W.sO tb_ok ?_; refine W.block (W.loop (fun p : Nat × List Int => ⟨[(7, .one (.int .i64 p.1)), (5, .one (.own 0)), (0, .one (.row 24 kIns (l.map f24))), (1, .one (.row 62 kBun (c.map f62)))], [.row 3 kI p.2], 123⟩) (fun p => c.length - p.1) (fun p => p.1 ≤ c.length ∧ pgRun l (slTo c p.1) = some p.2) (0, List.replicate l.length (-1)) ⟨Nat.zero_le _, rfl⟩ (Le.to [0] hcx rfl ⟨rfl, rfl, rfl, rfl, rfl, rfl⟩) fun p hp => ?_); obtain ⟨n, a⟩ := p; obtain ⟨hnc, hpg⟩ := hp; simp only at hnc hpg; refine W.seq ?_; refine W.sO tb_ok ?_; refine W.if_ _ rfl (fun e => W.skip ?_) (fun e => W.exit ?_)
  case refine_2 =>
    have hn2 : n = c.length := by have := of_decide_eq_false e; omega
    subst hn2; have hal := pg_len hpg; have hfr : fitsR l (slTo c c.length) = (((List.range l.length).all fun i : Nat => decide (0 ≤ rd a (i : Int))) && (edges l).all fun e => decide (rd a e.f0 + e.f2 ≤ rd a e.f1)) := by unfold fitsR; rw [hpg]
    refine W.seq ?_; refine W.sO tb_ok ?_; refine W.block (W.loop (fun i : Nat => ⟨[(11, .one (.int .i64 i)), (5, .one (.own 0)), (0, .one (.row 24 kIns (l.map f24))), (1, .one (.row 62 kBun (c.map f62)))], [.row 3 kI a], 123⟩) (fun i => l.length - i) (fun i => i ≤ l.length ∧ ∀ j : Nat, j < i → 0 ≤ rd a (j : Int)) 0 ⟨Nat.zero_le _, fun j h => absurd h (Nat.not_lt_zero _)⟩ (Le.to [0] hcx rfl ⟨rfl, rfl, rfl, rfl, rfl, rfl⟩) fun i hi => ?_); obtain ⟨hi, hp⟩ := hi; refine W.seq ?_; refine W.sO tb_ok ?_; refine W.if_ _ rfl (fun e => W.skip ?_) (fun e => W.exit ?_)
    · have ei : i < l.length := by have := of_decide_eq_true e; omega
      have eia : i < a.length := by omega
      refine W.seq (W.block ?_); refine W.sO tb_ok ?_; refine W.if_ _ rfl (fun e2 => ?_) (fun e2 => W.skip ?_)
      · have e3 : rd a (i : Int) < 0 := of_decide_eq_true e2
        rw [show fitsR l (slTo c c.length) = false by
          rw [hfr, show ((List.range l.length).all fun i : Nat => decide (0 ≤ rd a (i : Int))) = false by
            rw [← Bool.not_eq_true, List.all_eq_true]; exact fun h => by have := of_decide_eq_true (h i (List.mem_range.2 ei)); omega]; rfl]
        refine W.sO tb_ok ?_; exact W.ret (endL1 (tb := tb) (n0 := 0) rfl rfl rfl rfl)
      · have e3 : ¬ rd a (i : Int) < 0 := of_decide_eq_false e2; refine W.rO tb_ok ?_; refine ⟨i + 1, ⟨ei, fun j hj => (by rcases Nat.eq_or_lt_of_le (Nat.le_of_lt_succ hj) with h | h; rw [h]; omega; exact hp j h)⟩, Le.to [0] hcx rfl ⟨?_, rfl, rfl, rfl, rfl, rfl⟩, by omega⟩; show S.ren _ (S.one (.int .i64 (IntKind.i64.wrap (↑i + 1)))) = _; rw [IntWalk.i64_in _ (by omega)]; rfl
    have hi2 : i = l.length := by have := of_decide_eq_false e; omega
    subst hi2
    have hfr2 : fitsR l (slTo c c.length) = (edges l).all fun e => decide (rd a e.f0 + e.f2 ≤ rd a e.f1) := by
      rw [hfr, show ((List.range l.length).all fun i : Nat => decide (0 ≤ rd a (i : Int))) = true from List.all_eq_true.2 fun i hi => decide_eq_true (hp i (List.mem_range.1 hi)), Bool.true_and]
    refine W.sO tb_ok ?_; refine W.seq ?_; refine W.sO tb_ok ?_; refine W.block (W.loop (fun j : Nat => ⟨[(13, .one (.int .i64 j)), (12, .one (.row 100 kE ((edges l).map f100))), (5, .one (.own 0)), (0, .one (.row 24 kIns (l.map f24))), (1, .one (.row 62 kBun (c.map f62)))], [.row 3 kI a], 123⟩) (fun j => (edges l).length - j) (fun j => j ≤ (edges l).length ∧ (((edges l).drop j).all fun e => decide (rd a e.f0 + e.f2 ≤ rd a e.f1)) = fitsR l (slTo c c.length)) 0 ⟨Nat.zero_le _, hfr2.symm⟩ (Le.to [0] hcx rfl ⟨rfl, rfl, rfl, rfl, rfl, rfl, rfl⟩) fun j hj => ?_); obtain ⟨hj, hr⟩ := hj; refine W.seq ?_; refine W.sO tb_ok ?_; refine W.if_ _ rfl (fun e => W.skip ?_) (fun e => W.exit ?_)
    case refine_2 =>
      have hj2 : j = (edges l).length := by have := of_decide_eq_false e; omega
      subst hj2; rw [← hr, List.drop_of_length_le (Nat.le_refl _)]; refine W.sO tb_ok ?_; exact W.ret (endL1 (tb := tb) (n0 := 0) rfl rfl rfl rfl)
    have ej : j < (edges l).length := by have := of_decide_eq_true e; omega
    obtain ⟨x, t, ex, et, hxl, htl⟩ := edges_in (List.getElem_mem ej); have hd := edges_dist l _ (List.getElem_mem ej); have hbx := pg_bd hpg x hxl; have hq1 : ((edges l).map f100).getD j (K.zero kE) = ((x : Int), (t : Int), (edges l)[j].f2, ()) := by rw [at100 _ j ej, ← ex, ← et]; rfl
    have hq2 : 0 ≤ (((edges l).map f100).getD j (K.zero kE)).1 := by rw [hq1]; exact Int.natCast_nonneg x
    have hq3 : (((edges l).map f100).getD j (K.zero kE)).1 < (a.length : Int) := by rw [hq1]; show (x : Int) < _; omega
    have hq4 : Int.toNat (((edges l).map f100).getD j (K.zero kE)).1 < a.length := by rw [hq1]; show Int.toNat (x : Int) < _; omega
    have hq5 : 0 ≤ (((edges l).map f100).getD j (K.zero kE)).2.1 := by rw [hq1]; exact Int.natCast_nonneg t
    have hq6 : (((edges l).map f100).getD j (K.zero kE)).2.1 < (a.length : Int) := by rw [hq1]; show (t : Int) < _; omega
    have hq7 : Int.toNat (((edges l).map f100).getD j (K.zero kE)).2.1 < a.length := by rw [hq1]; show Int.toNat (t : Int) < _; omega
    rw [List.drop_eq_getElem_cons ej, List.all_cons] at hr
    have hcond : decide (IntKind.i64.wrap (a.getD (Int.toNat (((edges l).map f100).getD j (K.zero kE)).1) (K.zero kI) + (((edges l).map f100).getD j (K.zero kE)).2.2.1) > a.getD (Int.toNat (((edges l).map f100).getD j (K.zero kE)).2.1) (K.zero kI)) = !decide (rd a (edges l)[j].f0 + (edges l)[j].f2 ≤ rd a (edges l)[j].f1) := by
      rw [hq1, ex, et]; show decide (IntKind.i64.wrap (rd a (x : Int) + (edges l)[j].f2) > rd a (t : Int)) = _; rw [IntWalk.i64_in _ (by omega), ← decide_not]; exact decide_eq_decide.2 Int.not_le.symm
    refine W.seq (W.block ?_); refine W.aO [23] tb_ok ?_; refine W.if_ _ rfl (fun h => ?_) (fun h => W.skip ?_)
    · have h1 := hcond.symm.trans h; rw [Bool.not_eq_true'] at h1; rw [← hr, h1]; refine W.sO tb_ok ?_; exact W.ret (endL1 (tb := tb) (n0 := 0) rfl rfl rfl rfl)
    · have h1 := hcond.symm.trans h; rw [Bool.not_eq_false'] at h1; rw [h1, Bool.true_and] at hr; refine W.rO tb_ok ?_; refine ⟨j + 1, ⟨ej, hr⟩, Le.to [0] hcx rfl ⟨?_, rfl, rfl, rfl, rfl, rfl, rfl⟩, by omega⟩; show S.ren _ (S.one (.int .i64 (IntKind.i64.wrap (↑j + 1)))) = _; rw [IntWalk.i64_in _ (by omega)]; rfl
  have en : n < c.length := by have := of_decide_eq_true e; omega
  have hy := atB c n en; refine W.seq (W.block ?_); refine W.sO tb_ok ?_; refine W.block (W.loop (fun q : Nat × List Int => ⟨[(8, .one (.int .i64 q.1)), (7, .one (.int .i64 n)), (5, .one (.own 0)), (0, .one (.row 24 kIns (l.map f24))), (1, .one (.row 62 kBun (c.map f62)))], [.row 3 kI q.2], 123⟩) (fun q => 4 - q.1) (fun q => q.1 ≤ 4 ∧ pgRun l (slK c n q.1) = some q.2) (0, a) ⟨Nat.zero_le _, by rw [slK_zero]; exact hpg⟩ (Le.to [0] hcx rfl ⟨rfl, rfl, rfl, rfl, rfl, rfl, rfl⟩) fun q hq => ?_); obtain ⟨s, a⟩ := q; obtain ⟨hs, hpg⟩ := hq; simp only at hs hpg; have hal := pg_len hpg; refine W.seq ?_; refine W.sO tb_ok ?_; refine W.if_ _ rfl (fun e => W.skip ?_) (fun e => W.exit ?_)
  case refine_2 =>
    have hs2 : s = 4 := by have := of_decide_eq_false e; omega
    subst hs2; rw [← slTo_succ] at hpg; refine W.rO tb_ok ?_; refine ⟨(n + 1, a), ⟨en, hpg⟩, Le.to [0] hcx rfl ⟨?_, rfl, rfl, rfl, rfl, rfl⟩, by show _ - (n + 1) < _ - n; omega⟩; show S.ren _ (S.one (.int .i64 (IntKind.i64.wrap (↑n + 1)))) = _; rw [IntWalk.i64_in _ (by omega)]; rfl
  have es : s < 4 := by have := of_decide_eq_true e; omega
  have hnx := slK_succ c n s; have hxok := whole_slot hw n s en es; have hall := fun k hk => slK_all c n k en hk; generalize hx : slotB (J62 c n) s = x at hnx hxok; have ox := okI_op hxok; have h46 := o46 x.f0 (s : Int) ox (by omega); refine W.seq (W.block ?_); refine W.seqTo ⟨[(8, .one (.int .i64 s)), (7, .one (.int .i64 n)), (9, .one (.ptr 1 0)), (5, .one (.own 0)), (0, .one (.row 24 kIns (l.map f24))), (1, .one (.row 62 kBun (c.map f62)))], [.row 3 kI a, .box 24 (kIns.flat (f24 x))], 123⟩ ?_ ?_
  · have e5 : s = 0 ∨ s = 1 ∨ s = 2 ∨ s = 3 := by omega
    rcases e5 with rfl | rfl | rfl | rfl
    · subst hx; refine W.rO tb_ok ?_; exact Le.to [0, 1] hcx rfl ⟨rfl, rfl, rfl, rfl, rfl, rfl, by rw [hy]; rfl, rfl⟩
    · subst hx; refine W.rO tb_ok ?_; exact Le.to [0, 1] hcx rfl ⟨rfl, rfl, rfl, rfl, rfl, rfl, by rw [hy]; rfl, rfl⟩
    · subst hx; refine W.rO tb_ok ?_; exact Le.to [0, 1] hcx rfl ⟨rfl, rfl, rfl, rfl, rfl, rfl, by rw [hy]; rfl, rfl⟩
    · subst hx; refine W.rO tb_ok ?_; exact Le.to [0, 1] hcx rfl ⟨rfl, rfl, rfl, rfl, rfl, rfl, by rw [hy]; rfl, rfl⟩
  refine W.seq ?_; refine W.sO tb_ok ?_; refine W.if_ _ rfl (fun e2 => W.exit ?_) (fun e2 => W.skip ?_)
  · have e3 : (x.f0 == 0) = true := e2; rw [if_pos e3, List.append_nil] at hnx; refine W.rO tb_ok ?_; refine ⟨(s + 1, a), ⟨es, by rw [hnx]; exact hpg⟩, Le.to [0] hcx rfl ⟨?_, rfl, rfl, rfl, rfl, rfl, rfl⟩, by show 4 - (s + 1) < 4 - s; omega⟩; show S.ren _ (S.one (.int .i64 (IntKind.i64.wrap (↑s + 1)))) = _; rw [IntWalk.i64_in _ (by omega)]; rfl
  have e3 : (x.f0 == 0) = false := e2; rw [if_neg (by rw [e3]; exact Bool.false_ne_true)] at hnx; have hst := pgRun_snoc l (slK c n s) (n, s, x); rw [← hnx, hpg] at hst; replace hst : pgRun l (slK c n (s + 1)) = pgStep l a (n, s, x) := hst; refine W.sO tb_ok ?_; refine W.seq ?_; refine W.block (W.loop (fun k : Nat => ⟨((10, .one (.int .i64 k)) :: [(8, .one (.int .i64 s)), (7, .one (.int .i64 n)), (9, .one (.ptr 1 0)), (5, .one (.own 0)), (0, .one (.row 24 kIns (l.map f24))), (1, .one (.row 62 kBun (c.map f62)))]), [.row 3 kI a, .box 24 (kIns.flat (f24 x))], 123⟩) (fun k => l.length - k) (fun k => k ≤ l.length ∧ findK l a x k (l.length - k) = findK l a x 0 l.length) 0 ⟨Nat.zero_le _, rfl⟩ (Le.to [0, 1] hcx rfl ⟨rfl, rfl, rfl, rfl, rfl, rfl, rfl, rfl, rfl⟩) fun k hk => ?_); obtain ⟨hk, hfk⟩ := hk; have hgi : decide ((k : Int) < ((l.map f24).length : Int)) = true → k < l.length ∧ k < a.length := fun h => by have := of_decide_eq_true h; omega
  refine W.seq ?_; refine W.seqA [19] tb_ok rfl rfl _ (by (repeat' first | dsimp | simp only [castRow_self] | apply And.intro) <;> first | rfl | trivial | assumption | omega | (intros; and_intros <;> first | rfl | trivial | assumption | omega) | (intro h; rw [h]; rfl) | (intro h; have h1 := hgi h; and_intros <;> first | exact h | trivial | omega | (intro h2; first | trivial | (rw [h, h2]; rfl))) | (intro h; have h1 := hgi (by revert h; cases decide ((k : Int) < ((l.map f24).length : Int)) <;> simp); and_intros <;> first | exact h | trivial | omega)) ?_; have hcond : (bif decide ((k : Int) < ((l.map f24).length : Int)) then (bif decide (a.getD k (K.zero kI) ≥ 0) then true else !eqI (g24 ((l.map f24).getD k (K.zero kIns))) x) else false) = (decide ((k : Int) < ((l.map f24).length : Int)) && !(!decide (a.getD k (K.zero kI) ≥ 0) && eqI (g24 ((l.map f24).getD k (K.zero kIns))) x)) := pick_cond _ _ _; refine W.if_ _ rfl (fun e4 => W.skip ?_) (fun e4 => W.exit ?_)
  · have e5 := hcond.symm.trans e4; rw [Bool.and_eq_true, Bool.not_eq_true'] at e5; have ek : k < l.length := by have := of_decide_eq_true e5.1; omega
    have hno : ¬ (rd a (k : Int) < 0 ∧ eqI (J24 l k) x = true) := fun h => by
      have h1 : (!decide (a.getD k (K.zero kI) ≥ 0)) = true := by rw [Bool.not_eq_true']; exact decide_eq_false (by show ¬ rd a (k : Int) ≥ 0; omega)
      have h2 := e5.2; rw [h1, at24 l k ek, Bool.true_and] at h2; exact Bool.false_ne_true (h2.symm.trans h.2)
    refine W.block ?_; refine W.rO tb_ok ?_; refine ⟨k + 1, ⟨ek, ?_⟩, Le.to [0, 1] hcx rfl ⟨?_, rfl, rfl, rfl, rfl, rfl, rfl, rfl, rfl⟩, by omega⟩
    · rw [← hfk, show l.length - k = (l.length - (k + 1)) + 1 by omega, findK, if_neg hno]
    · show S.ren _ (S.one (.int .i64 (IntKind.i64.wrap (↑k + 1)))) = _; rw [IntWalk.i64_in _ (by omega)]; rfl
  have e5 := hcond.symm.trans e4
  have hfin : findK l a x 0 l.length = k := by
    rw [← hfk]; rcases Nat.eq_or_lt_of_le hk with h | h
    · rw [h, Nat.sub_self, findK]
    · rw [decide_eq_true (by omega : (k : Int) < ((l.map f24).length : Int)), Bool.true_and, Bool.not_eq_false', Bool.and_eq_true, Bool.not_eq_true', at24 l k h] at e5; have h1 : ¬ rd a (k : Int) ≥ 0 := of_decide_eq_false e5.1; rw [show l.length - k = (l.length - (k + 1)) + 1 by omega, findK, if_pos ⟨by omega, e5.2⟩]
  unfold pgStep at hst; simp only [hfin] at hst; refine W.seq ?_; refine W.sO tb_ok ?_
  have hcc : (bif (k : Int) == ((l.map f24).length : Int) then true else !mayOp x.f0 (s : Int)) = decide (k = l.length ∨ mayOp x.f0 (s : Int) = false) := by
    rw [hL]; by_cases h : k = l.length
    · rw [h, decide_eq_true (.inl rfl), show ((l.length : Int) == (l.length : Int)) = true from beq_self_eq_true _]; rfl
    · rw [show ((k : Int) == (l.length : Int)) = false from beq_false_of_ne (by omega)]; cases hmo : mayOp x.f0 (s : Int) <;> simp [h]
  refine W.if_ _ rfl (fun e6 => ?_) (fun e6 => W.skip ?_)
  · rw [if_pos (of_decide_eq_true (hcc.symm.trans e6))] at hst; obtain ⟨T, hT⟩ := hall (s + 1) es; rw [hT, pgRun_none l _ T hst]; refine W.sO tb_ok ?_; exact W.ret (endL1 (tb := tb) (n0 := 0) rfl rfl rfl rfl)
  have e7 := of_decide_eq_false (hcc.symm.trans e6); rw [if_neg e7] at hst; have hka : k < a.length := by have : k ≠ l.length := fun h => e7 (.inl h); omega
  refine W.rO tb_ok ?_; refine W.rO tb_ok ?_; refine ⟨(s + 1, a.set k (n : Int)), ⟨es, hst⟩, Le.to [0] hcx rfl ⟨?_, rfl, rfl, rfl, rfl, rfl, rfl⟩, by show 4 - (s + 1) < 4 - s; omega⟩; show S.ren _ (S.one (.int .i64 (IntKind.i64.wrap (↑s + 1)))) = _; rw [IntWalk.i64_in _ (by omega)]; rfl
end Go.Den
end
section
-- the texts that this claim needs, out of this session's and its print's (wip/shrink.py)
namespace Go.Den
open Go Go.RowKit Go.Proofs Go.Proofs.YtibfkkjkahpobaaGreatW.PrintWords Go.Proofs.YtibfkkjkahpobaaGreat.PDag
def fS (p : Nat × Nat) : kS.T := ((p.1 : Int), (p.2 : Int), ())
def gO (S : List (Nat × Nat × S24)) (x : S24) : List kS.T := (occ S x).map fS
def gP (l : List S24) (S : List (Nat × Nat × S24)) (j : Nat) (x : S24) : List kS.T := ((occ S x).drop ((l.take j).count x)).map fS
def posL (l : List S24) (S : List (Nat × Nat × S24)) (n : Nat) : List kS.T := (List.range n).map fun i => fS (posOf l S i)
def found (l : List S24) (S : List (Nat × Nat × S24)) : Prop := ∀ i : Nat, i < l.length → cntB l i < (occ S (J24 l i)).length
def standsOrd : OT := (.alt 0 (.alt 1 (.alt 2 (.alt 3 (.alt 4 (.alt 5 (.alt 6 .done .none) .none) .none) .none) (.alt 3 (.alt 2 (.alt 4 (.alt 5 (.alt 6 .done .none) .none) .none) .none) .none)) (.alt 2 (.alt 1 (.alt 3 (.alt 4 (.alt 5 (.alt 6 .done .none) .none) .none) .none) (.alt 3 (.alt 1 (.alt 4 (.alt 5 (.alt 6 .done .none) .none) .none) (.alt 4 (.alt 1 (.alt 5 (.alt 6 .done .none) .none) (.alt 5 (.alt 1 (.alt 6 .done .none) .none) .none)) .none)) .none)) (.alt 3 (.alt 1 (.alt 2 (.alt 4 (.alt 5 (.alt 6 .done .none) .none) .none) .none) (.alt 2 (.alt 1 (.alt 4 (.alt 5 (.alt 6 .done .none) .none) .none) (.alt 4 (.alt 1 (.alt 5 (.alt 6 .done .none) .none) (.alt 5 (.alt 1 (.alt 6 .done .none) .none) .none)) .none)) .none)) .none))) (.alt 1 (.alt 0 (.alt 2 (.alt 3 (.alt 4 (.alt 5 (.alt 6 .done .none) .none) .none) .none) (.alt 3 (.alt 2 (.alt 4 (.alt 5 (.alt 6 .done .none) .none) .none) .none) .none)) (.alt 2 (.alt 0 (.alt 3 (.alt 4 (.alt 5 (.alt 6 .done .none) .none) .none) .none) (.alt 3 (.alt 0 (.alt 4 (.alt 5 (.alt 6 .done .none) .none) .none) (.alt 4 (.alt 0 (.alt 5 (.alt 6 .done .none) .none) (.alt 5 (.alt 0 (.alt 6 .done .none) .none) .none)) .none)) .none)) (.alt 3 (.alt 0 (.alt 2 (.alt 4 (.alt 5 (.alt 6 .done .none) .none) .none) .none) (.alt 2 (.alt 0 (.alt 4 (.alt 5 (.alt 6 .done .none) .none) .none) (.alt 4 (.alt 0 (.alt 5 (.alt 6 .done .none) .none) (.alt 5 (.alt 0 (.alt 6 .done .none) .none) .none)) .none)) .none)) .none))) (.alt 2 (.alt 0 (.alt 1 (.alt 3 (.alt 4 (.alt 5 (.alt 6 .done .none) .none) .none) .none) (.alt 3 (.alt 1 (.alt 4 (.alt 5 (.alt 6 .done .none) .none) .none) (.alt 4 (.alt 1 (.alt 5 (.alt 6 .done .none) .none) (.alt 5 (.alt 1 (.alt 6 .done .none) .none) .none)) .none)) .none)) (.alt 1 (.alt 0 (.alt 3 (.alt 4 (.alt 5 (.alt 6 .done .none) .none) .none) .none) (.alt 3 (.alt 0 (.alt 4 (.alt 5 (.alt 6 .done .none) .none) .none) (.alt 4 (.alt 0 (.alt 5 (.alt 6 .done .none) .none) (.alt 5 (.alt 0 (.alt 6 .done .none) .none) .none)) .none)) .none)) (.alt 3 (.alt 0 (.alt 1 (.alt 4 (.alt 5 (.alt 6 .done .none) .none) .none) (.alt 4 (.alt 1 (.alt 5 (.alt 6 .done .none) .none) (.alt 5 (.alt 1 (.alt 6 .done .none) .none) .none)) .none)) (.alt 1 (.alt 0 (.alt 4 (.alt 5 (.alt 6 .done .none) .none) .none) (.alt 4 (.alt 0 (.alt 5 (.alt 6 .done .none) .none) (.alt 5 (.alt 0 (.alt 6 .done .none) .none) .none)) .none)) (.alt 4 (.alt 0 (.alt 1 (.alt 5 (.alt 6 .done .none) .none) (.alt 5 (.alt 1 (.alt 6 .done .none) .none) .none)) (.alt 1 (.alt 0 (.alt 5 (.alt 6 .done .none) .none) (.alt 5 (.alt 0 (.alt 6 .done .none) .none) .none)) (.alt 5 (.alt 0 (.alt 1 (.alt 6 .done .none) .none) (.alt 1 (.alt 0 (.alt 6 .done .none) .none) .none)) .none))) .none))) .none))) (.alt 3 (.alt 0 (.alt 1 (.alt 2 (.alt 4 (.alt 5 (.alt 6 .done .none) .none) .none) .none) (.alt 2 (.alt 1 (.alt 4 (.alt 5 (.alt 6 .done .none) .none) .none) (.alt 4 (.alt 1 (.alt 5 (.alt 6 .done .none) .none) (.alt 5 (.alt 1 (.alt 6 .done .none) .none) .none)) .none)) .none)) (.alt 1 (.alt 0 (.alt 2 (.alt 4 (.alt 5 (.alt 6 .done .none) .none) .none) .none) (.alt 2 (.alt 0 (.alt 4 (.alt 5 (.alt 6 .done .none) .none) .none) (.alt 4 (.alt 0 (.alt 5 (.alt 6 .done .none) .none) (.alt 5 (.alt 0 (.alt 6 .done .none) .none) .none)) .none)) .none)) (.alt 2 (.alt 0 (.alt 1 (.alt 4 (.alt 5 (.alt 6 .done .none) .none) .none) (.alt 4 (.alt 1 (.alt 5 (.alt 6 .done .none) .none) (.alt 5 (.alt 1 (.alt 6 .done .none) .none) .none)) .none)) (.alt 1 (.alt 0 (.alt 4 (.alt 5 (.alt 6 .done .none) .none) .none) (.alt 4 (.alt 0 (.alt 5 (.alt 6 .done .none) .none) (.alt 5 (.alt 0 (.alt 6 .done .none) .none) .none)) .none)) (.alt 4 (.alt 0 (.alt 1 (.alt 5 (.alt 6 .done .none) .none) (.alt 5 (.alt 1 (.alt 6 .done .none) .none) .none)) (.alt 1 (.alt 0 (.alt 5 (.alt 6 .done .none) .none) (.alt 5 (.alt 0 (.alt 6 .done .none) .none) .none)) (.alt 5 (.alt 0 (.alt 1 (.alt 6 .done .none) .none) (.alt 1 (.alt 0 (.alt 6 .done .none) .none) .none)) .none))) .none))) .none))) .none))))
theorem rowS_len (n : Nat) (b : S62) (k : Nat) : (rowS n b k).length ≤ k := by
  unfold rowS; exact Nat.le_trans (List.length_filterMap_le _ _) (by simp)
theorem slTo_len (c : List S62) : ∀ n, (slTo c n).length ≤ 4 * n
  | 0 => Nat.le_refl _
  | n + 1 => by
    rw [slTo_succ, slK, List.length_append]; have := slTo_len c n; have := rowS_len n (J62 c n) 4; omega
theorem slK_len (c : List S62) (n k : Nat) : (slK c n k).length ≤ 4 * n + k := by
  unfold slK; rw [List.length_append]; have := slTo_len c n; have := rowS_len n (J62 c n) k; omega
theorem eqI_iff (y x : S24) : (x == y) = eqI y x := by
  cases h : eqI y x with
  | true => rw [eqI_eq h]; exact beq_self_eq_true _
  | false =>
    cases h2 : x == y with
    | false => rfl
    | true => rw [← eq_of_beq h2, eqI_self] at h; cases h
theorem gO_one (S : List (Nat × Nat × S24)) (n s : Nat) (x : S24) : (fun y => if eqI y x = true then gO S x ++ [fS (n, s)] else gO S y) = gO (S ++ [(n, s, x)]) := by
  funext y; unfold gO; rw [occ_append, occ_one, List.map_append]; show _ = _ ++ List.map fS (if (x == y) = true then [(n, s)] else []); rw [eqI_iff]; split
  · rename_i h; rw [eqI_eq h]; rfl
  · simp
theorem gP_one (l : List S24) (S : List (Nat × Nat × S24)) (j : Nat) (hj : j < l.length) : (fun y => if eqI y (J24 l j) = true then (gP l S j (J24 l j)).drop 1 else gP l S j y) = gP l S (j + 1) := by
  funext y; unfold gP; rw [take_succ24 l j hj, List.count_append]; split
  · rename_i h
    rw [eqI_eq h, ← List.map_drop, List.drop_drop]; simp
  · rename_i h
    rw [List.count_singleton]; rw [show (J24 l (j : Int) == y) = false by rw [eqI_iff]; exact Bool.eq_false_iff.2 h]; simp
theorem gP_zero (l : List S24) (S : List (Nat × Nat × S24)) : gO S = gP l S 0 := by
  funext y; unfold gO gP; simp
theorem gP_len (l : List S24) (S : List (Nat × Nat × S24)) (j : Nat) : (gP l S j (J24 l j)).length = (occ S (J24 l j)).length - cntB l j := by
  unfold gP cntB; rw [List.length_map, List.length_drop]
theorem gP_head (l : List S24) (S : List (Nat × Nat × S24)) (j : Nat) (h : cntB l j < (occ S (J24 l j)).length) : (gP l S j (J24 l j)).getD 0 (K.zero kS) = fS (posOf l S j) := by
  unfold gP posOf; show _ = fS (((occ S (J24 l j))[(l.take j).count (J24 l j)]?).getD (0, 0)); have h : (l.take j).count (J24 l j) < (occ S (J24 l j)).length := h; rw [List.getD_eq_getElem?_getD, List.getElem?_map, List.getElem?_drop, Nat.add_zero, List.getElem?_eq_getElem h]; rfl
theorem gO_len (S : List (Nat × Nat × S24)) (x : S24) : (gO S x).length ≤ S.length := by unfold gO occ; rw [List.length_map]; exact List.length_filterMap_le _ _
theorem posL_succ (l : List S24) (S : List (Nat × Nat × S24)) (j : Nat) : posL l S (j + 1) = posL l S j ++ [fS (posOf l S j)] := by
  unfold posL; rw [List.range_succ, List.map_append]; rfl
theorem posL_len (l : List S24) (S : List (Nat × Nat × S24)) (j : Nat) : (posL l S j).length = j := by unfold posL; rw [List.length_map, List.length_range]
theorem o50w (l : List S24) (c : List S62) (hm : mayL l = true) (hw : wholeL c = true) (s : S) (H : List Blk) (hyes : found l (slTo c c.length) → s = .tup [(false, [.own 0]), (false, [.bool (decide (((slTo c c.length).length : Int) = (l.length : Int)))])] ∧ H = [.row 98 kS (posL l (slTo c c.length) l.length)])
    (hno : ¬ found l (slTo c c.length) → s = .tup [(false, [.own 0]), (false, [.bool false])] ∧ H = [.row 98 kS []]) : CallStep Tryz.prog 50 [.one (.row 24 kIns (l.map f24)), .one (.row 62 kBun (c.map f62))] [] s H := by
  have hn := (mayL_parts hm).1; have ho := mayL_ok hm; have hc : c.length ≤ 1024 := by unfold wholeL at hw; simp only [Bool.and_eq_true, decide_eq_true_eq] at hw; exact hw.1
  have hL : (l.map f24).length = l.length := List.length_map ..; have hC : (c.map f62).length = c.length := List.length_map ..; have hmx : (9223372036854775807 : Nat) = maxLen := by unfold maxLen; omega
  refine CallStep.intro' (n := 75) (n0 := 0) (rs := [.tmp 4, .tmp 5]) tb_ok Tryz.func50 (by kernel_rfl) rfl rfl rfl rfl rfl fun cx hcx => ?_; refine WG.toW ?_; refine WG.seqR tb_ok gh0_ok _ (by (repeat' first | dsimp | simp only [castRow_self] | apply And.intro) <;> first | rfl | trivial | assumption | omega | (intros; and_intros <;> first | rfl | trivial | assumption | omega)) ?_; refine WG.seq (WG.reg (RunG.step (StepG.makeMap rfl rfl rfl rfl (Nat.le_of_ble_eq_true rfl) fun b => ?_))); refine RunG.dens tb_ok MO.ok 1 1 rfl rfl _ (by (repeat' first | dsimp | simp only [castRow_self] | apply And.intro) <;> first | rfl | trivial | assumption | omega | (intros; and_intros <;> first | rfl | trivial | assumption | omega)) ?_; refine RunG.nil ?_; refine WG.seqR tb_ok MO.ok _ (by (repeat' first | dsimp | simp only [castRow_self] | apply And.intro) <;> first | rfl | trivial | assumption | omega | (intros; and_intros <;> first | rfl | trivial | assumption | omega)) ?_; refine WG.seq ?_; refine WG.seqR tb_ok MO.ok _ (by (repeat' first | dsimp | simp only [castRow_self] | apply And.intro) <;> first | rfl | trivial | assumption | omega | (intros; and_intros <;> first | rfl | trivial | assumption | omega)) ?_; refine WG.block (WG.loop (fun n : Nat => ⟨[(17, .one (.int .i64 n)), (7, .one (.int .i64 ((slTo c n).length : Int))), (4, .one (.own 0)), (16, .one (.int .i64 ((c.map f62).length : Int))), (15, .one (.row 62 kBun (c.map f62))), (6, .raw (.map (some b))), (0, .one (.row 24 kIns (l.map f24)))], [.row 98 kS []], 75⟩) (fun n => MO cx b (gO (slTo c n)) (slTo c n).length) (fun n => c.length - n) (fun n => n ≤ c.length) 0 (Nat.zero_le _) (LeG.to MO.ok [0] hcx rfl ⟨rfl, rfl, rfl, rfl, rfl, rfl, rfl, rfl, rfl⟩) fun n hnc => ?_); have hlen0 := slTo_len c n; refine WG.seqR tb_ok MO.ok _ (by (repeat' first | dsimp | simp only [castRow_self] | apply And.intro) <;> first | rfl | trivial | assumption | omega | (intros; and_intros <;> first | rfl | trivial | assumption | omega)) ?_; refine WG.seq ?_; refine WG.if_ _ rfl (fun e => WG.skip ?_) (fun e => WG.exit ?_)
  case refine_1 =>
    have en : n < c.length := by have := of_decide_eq_true e; omega
    have hy := atB c n en; refine WG.seq (WG.block ?_); refine WG.seqR tb_ok MO.ok _ (by (repeat' first | dsimp | simp only [castRow_self] | apply And.intro) <;> first | rfl | trivial | assumption | omega | (intros; and_intros <;> first | rfl | trivial | assumption | omega)) ?_; refine WG.seqR tb_ok MO.ok _ (by (repeat' first | dsimp | simp only [castRow_self] | apply And.intro) <;> first | rfl | trivial | assumption | omega | (intros; and_intros <;> first | rfl | trivial | assumption | omega)) ?_; refine WG.block (WG.loop (fun k : Nat => ⟨[(23, .one (.int .i64 k)), (22, .agg (kBun.flat ((c.map f62).getD n (K.zero kBun)))), (8, .one (.int .i64 n)), (17, .one (.int .i64 n)), (7, .one (.int .i64 ((slK c n k).length : Int))), (4, .one (.own 0)), (16, .one (.int .i64 ((c.map f62).length : Int))), (15, .one (.row 62 kBun (c.map f62))), (6, .raw (.map (some b))), (0, .one (.row 24 kIns (l.map f24)))], [.row 98 kS []], 75⟩) (fun k => MO cx b (gO (slK c n k)) (slK c n k).length) (fun k => 4 - k) (fun k => k ≤ 4) 0 (Nat.zero_le _) (by rw [slK_zero]; exact LeG.to MO.ok [0] hcx rfl ⟨rfl, rfl, rfl, rfl, rfl, rfl, rfl, rfl, rfl, rfl, rfl, rfl⟩) fun k hk => ?_); have hlen1 := slK_len c n k; refine WG.seqR tb_ok MO.ok _ (by (repeat' first | dsimp | simp only [castRow_self] | apply And.intro) <;> first | rfl | trivial | assumption | omega | (intros; and_intros <;> first | rfl | trivial | assumption | omega)) ?_; refine WG.seq ?_; refine WG.if_ _ rfl (fun e3 => WG.skip ?_) (fun e3 => WG.exit ?_)
    case refine_2 =>
      have hk4 : k = 4 := by have := of_decide_eq_false e3; omega
      subst hk4; refine WG.regR tb_ok MO.ok _ (by (repeat' first | dsimp | simp only [castRow_self] | apply And.intro) <;> first | rfl | trivial | assumption | omega | (intros; and_intros <;> first | rfl | trivial | assumption | omega)) ?_; rw [← slTo_succ]; refine ⟨n + 1, en, LeG.to MO.ok [0] hcx rfl ⟨?_, rfl, rfl, rfl, rfl, rfl, rfl, rfl, rfl⟩, by omega⟩; show S.ren _ (S.one (.int .i64 (IntKind.i64.wrap (↑n + 1)))) = _; rw [IntWalk.i64_in _ (by omega)]; rfl
    have ek : k < 4 := by have := of_decide_eq_true e3; omega
    have hnx := slK_succ c n k; have hxok := whole_slot hw n k en ek; generalize hx : slotB (J62 c n) k = x at hnx hxok; have hlen2 := slK_len c n (k + 1); refine WG.seq (WG.block ?_); refine WG.seqTo ⟨[(10, .one (.int .i64 k)), (11, .one (.ptr 1 0)), (23, .one (.int .i64 k)), (22, .agg (kBun.flat ((c.map f62).getD n (K.zero kBun)))), (8, .one (.int .i64 n)), (17, .one (.int .i64 n)), (7, .one (.int .i64 ((slK c n k).length : Int))), (4, .one (.own 0)), (16, .one (.int .i64 ((c.map f62).length : Int))), (15, .one (.row 62 kBun (c.map f62))), (6, .raw (.map (some b))), (0, .one (.row 24 kIns (l.map f24)))], [.row 98 kS [], .box 24 (kIns.flat (f24 x))], 75⟩ (MO cx b (gO (slK c n k)) (slK c n k).length) ?_ ?_
    · have e5 : k = 0 ∨ k = 1 ∨ k = 2 ∨ k = 3 := by omega
      rcases e5 with rfl | rfl | rfl | rfl
      · subst hx; refine WG.regR tb_ok MO.ok _ (by (repeat' first | dsimp | simp only [castRow_self] | apply And.intro) <;> first | rfl | trivial | assumption | omega | (intros; and_intros <;> first | rfl | trivial | assumption | omega)) ?_; exact LeG.to MO.ok [0, 1] hcx rfl ⟨rfl, rfl, rfl, rfl, rfl, rfl, rfl, rfl, rfl, rfl, rfl, rfl, by rw [hy]; rfl, rfl⟩
      · subst hx; refine WG.regR tb_ok MO.ok _ (by (repeat' first | dsimp | simp only [castRow_self] | apply And.intro) <;> first | rfl | trivial | assumption | omega | (intros; and_intros <;> first | rfl | trivial | assumption | omega)) ?_; exact LeG.to MO.ok [0, 1] hcx rfl ⟨rfl, rfl, rfl, rfl, rfl, rfl, rfl, rfl, rfl, rfl, rfl, rfl, by rw [hy]; rfl, rfl⟩
      · subst hx; refine WG.regR tb_ok MO.ok _ (by (repeat' first | dsimp | simp only [castRow_self] | apply And.intro) <;> first | rfl | trivial | assumption | omega | (intros; and_intros <;> first | rfl | trivial | assumption | omega)) ?_; exact LeG.to MO.ok [0, 1] hcx rfl ⟨rfl, rfl, rfl, rfl, rfl, rfl, rfl, rfl, rfl, rfl, rfl, rfl, by rw [hy]; rfl, rfl⟩
      · subst hx; refine WG.regR tb_ok MO.ok _ (by (repeat' first | dsimp | simp only [castRow_self] | apply And.intro) <;> first | rfl | trivial | assumption | omega | (intros; and_intros <;> first | rfl | trivial | assumption | omega)) ?_; exact LeG.to MO.ok [0, 1] hcx rfl ⟨rfl, rfl, rfl, rfl, rfl, rfl, rfl, rfl, rfl, rfl, rfl, rfl, by rw [hy]; rfl, rfl⟩
    refine WG.seq ?_; refine WG.regR tb_ok MO.ok _ (by (repeat' first | dsimp | simp only [castRow_self] | apply And.intro) <;> first | rfl | trivial | assumption | omega | (intros; and_intros <;> first | rfl | trivial | assumption | omega)) ?_; refine WG.if_ _ rfl (fun e6 => ?_) (fun e6 => WG.skip ?_)
    · have e7 : (x.f0 == 0) = false := by rw [← Bool.not_eq_true']; exact e6
      rw [if_neg (by rw [e7]; exact Bool.false_ne_true)] at hnx; have hb1 : rowB 16 ((gO (slK c n k) x).length + 1) := by have := gO_len (slK c n k) x; show _ * _ ≤ _; omega
      refine WG.seq (WG.reg ?_); refine RunG.dens tb_ok MO.ok 6 0 rfl rfl _ (by (repeat' first | dsimp | simp only [castRow_self] | apply And.intro) <;> first | rfl | trivial | assumption | omega | (intros; and_intros <;> first | rfl | trivial | assumption | omega)) ?_; refine RunG.step (StepG.mapEntry (x := x) rfl rfl rfl rfl (Nat.le_of_ble_eq_true rfl) rfl rfl hxok (by omega) fun st => ?_); refine RunG.dens tb_ok MI.ok 3 7 rfl rfl _ (by (repeat' first | dsimp | simp only [castRow_self] | apply And.intro) <;> first | rfl | trivial | assumption | omega | (intros; and_intros <;> first | rfl | trivial | assumption | omega)) ?_; refine RunG.step (StepG.entryStore rfl rfl rfl rfl rfl rfl rfl rfl hxok ?_); refine RunG.nil ?_; refine WG.regR tb_ok MO.ok _ (by (repeat' first | dsimp | simp only [castRow_self] | apply And.intro) <;> first | rfl | trivial | assumption | omega | (intros; and_intros <;> first | rfl | trivial | assumption | omega)) ?_; refine WG.regR tb_ok MO.ok _ (by (repeat' first | dsimp | simp only [castRow_self] | apply And.intro) <;> first | rfl | trivial | assumption | omega | (intros; and_intros <;> first | rfl | trivial | assumption | omega)) ?_; refine ⟨k + 1, ek, ?_, by omega⟩; rw [hnx, ← gO_one, List.length_append]; refine LeG.to MO.ok [0] hcx rfl ⟨?_, rfl, rfl, rfl, ?_, rfl, rfl, rfl, rfl, rfl, rfl, rfl⟩
      · show S.ren _ (S.one (.int .i64 (IntKind.i64.wrap (↑k + 1)))) = _; rw [IntWalk.i64_in _ (by omega)]; rfl
      · show S.ren _ (S.one (.int .i64 (IntKind.i64.wrap (((slK c n k).length : Int) + 1)))) = _; rw [IntWalk.i64_in _ (by omega)]; rfl
    · have e7 : (x.f0 == 0) = true := by rw [← Bool.not_eq_false']; exact e6
      rw [if_pos e7, List.append_nil] at hnx; refine WG.regR tb_ok MO.ok _ (by (repeat' first | dsimp | simp only [castRow_self] | apply And.intro) <;> first | rfl | trivial | assumption | omega | (intros; and_intros <;> first | rfl | trivial | assumption | omega)) ?_; refine ⟨k + 1, ek, ?_, by omega⟩; rw [hnx]; refine LeG.to MO.ok [0] hcx rfl ⟨?_, rfl, rfl, rfl, rfl, rfl, rfl, rfl, rfl, rfl, rfl, rfl⟩; show S.ren _ (S.one (.int .i64 (IntKind.i64.wrap (↑k + 1)))) = _; rw [IntWalk.i64_in _ (by omega)]; rfl
  have hn2 : n = c.length := by have := of_decide_eq_false e; omega
  subst hn2; clear e hnc; have hS : ∃ S, S = slTo c c.length := ⟨_, rfl⟩
  obtain ⟨S, hS⟩ := hS; rw [← hS] at hlen0 hyes hno ⊢; refine WG.le LeG.read (WG.seq ?_); rw [gP_zero l S]; refine WG.seqR tb_ok MR.ok _ (by (repeat' first | dsimp | simp only [castRow_self] | apply And.intro) <;> first | rfl | trivial | assumption | omega | (intros; and_intros <;> first | rfl | trivial | assumption | omega)) ?_; refine WG.block (WG.loop (fun j : Nat => ⟨[(46, .one (.int .i64 j)), (45, .one (.int .i64 ((l.map f24).length : Int))), (44, .one (.row 24 kIns (l.map f24))), (4, .one (.own 0)), (7, .one (.int .i64 (S.length : Int))), (6, .raw (.map (some b))), (0, .one (.row 24 kIns (l.map f24)))], [.row 98 kS (posL l S j)], 75⟩) (fun j => MR cx b (gP l S j) (S.length + j)) (fun j => l.length - j) (fun j => j ≤ l.length ∧ ∀ i : Nat, i < j → cntB l i < (occ S (J24 l i)).length) 0 ⟨Nat.zero_le _, fun i h => absurd h (Nat.not_lt_zero _)⟩ (LeG.to MR.ok [0] hcx rfl ⟨rfl, rfl, rfl, rfl, rfl, rfl, rfl, rfl, rfl⟩) fun j hj => ?_); obtain ⟨hj, hp⟩ := hj; refine WG.seqR tb_ok MR.ok _ (by (repeat' first | dsimp | simp only [castRow_self] | apply And.intro) <;> first | rfl | trivial | assumption | omega | (intros; and_intros <;> first | rfl | trivial | assumption | omega)) ?_; refine WG.seq ?_; refine WG.if_ _ rfl (fun e => WG.skip ?_) (fun e => WG.exit ?_)
  case refine_2 =>
    have hj2 : j = l.length := by have := of_decide_eq_false e; omega
    subst hj2; obtain ⟨rfl, rfl⟩ := hyes hp; refine WG.seqR tb_ok MR.ok _ (by (repeat' first | dsimp | simp only [castRow_self] | apply And.intro) <;> first | rfl | trivial | assumption | omega | (intros; and_intros <;> first | rfl | trivial | assumption | omega)) ?_; refine WG.ret ⟨trivial, [0], rfl, ?_, rfl⟩; rw [← hL]; rfl
  have ej : j < l.length := by have := of_decide_eq_true e; omega
  have hat := at24 l j ej; have hxok : okI (J24 l j) = true := by rw [rd_at l j ej]; exact ho _ (List.getElem_mem ej)
  have hgl := gP_len l S j; have hpl := posL_len l S j; have hg1 := gP_one l S j ej; have hgh := gP_head l S j; have hps := posL_succ l S j; have hb2 : rowB 16 ((posL l S j).length + 1) := by show _ * _ ≤ _; omega
  generalize hx : J24 l j = x at hat hxok hgl hg1 hgh; refine WG.seq (WG.block (WG.seqTo ⟨[(13, .one (.ptr 1 0)), (46, .one (.int .i64 j)), (45, .one (.int .i64 ((l.map f24).length : Int))), (44, .one (.row 24 kIns (l.map f24))), (4, .one (.own 0)), (7, .one (.int .i64 (S.length : Int))), (6, .raw (.map (some b))), (0, .one (.row 24 kIns (l.map f24)))], [.row 98 kS (posL l S j), .box 24 (kIns.flat (f24 x))], 75⟩ (MR cx b (gP l S j) (S.length + j)) ?_ (WG.seq (WG.seq (WG.reg ?_)))))
  · refine WG.regR tb_ok MR.ok _ (by (repeat' first | dsimp | simp only [castRow_self] | apply And.intro) <;> first | rfl | trivial | assumption | omega | (intros; and_intros <;> first | rfl | trivial | assumption | omega)) ?_; exact LeG.to MR.ok [0, 1] hcx rfl ⟨rfl, rfl, rfl, rfl, rfl, rfl, rfl, rfl, by rw [hat]; rfl, rfl⟩
  refine RunG.dens tb_ok MR.ok 2 0 rfl rfl _ (by (repeat' first | dsimp | simp only [castRow_self] | apply And.intro) <;> first | rfl | trivial | assumption | omega | (intros; and_intros <;> first | rfl | trivial | assumption | omega)) ?_; refine RunG.step (StepG.lookup (x := x) rfl rfl rfl rfl (Nat.le_of_ble_eq_true rfl) rfl rfl hxok ?_); refine RunG.dens tb_ok MR.ok 2 3 rfl rfl _ (by (repeat' first | dsimp | simp only [castRow_self] | apply And.intro) <;> first | rfl | trivial | assumption | omega | (intros; and_intros <;> first | rfl | trivial | assumption | omega)) ?_; refine RunG.nil ?_; refine WG.if_ _ rfl (fun e2 => ?_) (fun e2 => WG.skip ?_)
  · have e3 : ((gP l S j x).length : Int) = 0 := eq_of_beq e2; obtain ⟨rfl, rfl⟩ := hno fun h => by have := h j ej; rw [hx] at this; omega
    refine WG.seqR tb_ok MR.ok _ (by (repeat' first | dsimp | simp only [castRow_self] | apply And.intro) <;> first | rfl | trivial | assumption | omega | (intros; and_intros <;> first | rfl | trivial | assumption | omega)) ?_; exact WG.ret ⟨trivial, [2], rfl, rfl, rfl⟩
  have e3 : ¬ ((gP l S j x).length : Int) = 0 := fun h => absurd e2 (by rw [h]; decide); have hlt : cntB l j < (occ S x).length := by omega
  have hg2 := hgh hlt; refine WG.seq (WG.reg ?_); refine RunG.dens tb_ok MR.ok 3 0 rfl rfl _ (by (repeat' first | dsimp | simp only [castRow_self] | apply And.intro) <;> first | rfl | trivial | assumption | omega | (intros; and_intros <;> first | rfl | trivial | assumption | omega)) ?_; refine RunG.step (StepG.lookup (x := x) rfl rfl rfl rfl (Nat.le_of_ble_eq_true rfl) rfl rfl hxok ?_); refine RunG.dens tb_ok MR.ok 5 4 rfl rfl _ (by (repeat' first | dsimp | simp only [castRow_self] | apply And.intro) <;> first | rfl | trivial | assumption | omega | (intros; and_intros <;> first | rfl | trivial | assumption | omega)) ?_; refine RunG.nil ?_; refine WG.le (σ1 := ⟨[(13, .one (.ptr 1 0)), (46, .one (.int .i64 j)), (45, .one (.int .i64 ((l.map f24).length : Int))), (44, .one (.row 24 kIns (l.map f24))), (4, .one (.own 0)), (7, .one (.int .i64 (S.length : Int))), (6, .raw (.map (some b))), (0, .one (.row 24 kIns (l.map f24)))], [.row 98 kS (posL l S (j + 1)), .box 24 (kIns.flat (f24 x))], 75⟩) (LeG.to MR.ok [2, 1] hcx rfl ⟨rfl, rfl, rfl, rfl, rfl, rfl, rfl, rfl, by rw [hps, ← hg2]; rfl, rfl⟩) ?_; refine WG.ordTo standsOrd ⟨[(46, .one (.int .i64 j)), (45, .one (.int .i64 ((l.map f24).length : Int))), (44, .one (.row 24 kIns (l.map f24))), (4, .one (.own 0)), (7, .one (.int .i64 (S.length : Int))), (6, .raw (.map (some b))), (0, .one (.row 24 kIns (l.map f24)))], [.row 98 kS (posL l S (j + 1))], 75⟩ (MR cx b (gP l S (j + 1)) (S.length + j + 1)) MR.drew rfl (by kernel_rfl) ?_ ?_
  · have hys : ((gP l S j x).take (gP l S j x).length).drop 1 = (gP l S j x).drop 1 := by rw [List.take_length]
    repeat' first
      | trivial
      | (refine (show StepG _ _ _ _ _ _ _ from ?_); refine StepG.lookup (x := x) rfl rfl rfl rfl (Nat.le_of_ble_eq_true rfl) rfl rfl hxok ?_)
      | (refine (show StepG _ _ _ _ _ _ _ from ?_); refine StepG.mapUpdate (x := x) rfl rfl rfl rfl rfl rfl rfl hxok (by omega) ?_)
      | (refine (show StepG _ _ _ _ _ _ _ from ?_); refine StepG.den tb_ok MR.ok (ow := false) rfl _ (by (repeat' first | dsimp | simp only [castRow_self] | apply And.intro) <;> first | rfl | trivial | assumption | omega | (intros; and_intros <;> first | rfl | trivial | assumption | omega)) ?_)
      | exact LeG.to MR.ok [0] hcx rfl ⟨rfl, rfl, rfl, rfl, rfl, rfl, rfl, rfl, rfl⟩
      | (rw [hys, hg1]; exact LeG.to MR.ok [0] hcx rfl ⟨rfl, rfl, rfl, rfl, rfl, rfl, rfl, rfl, rfl⟩)
      | refine And.intro ?_ ?_
  · refine WG.regR tb_ok MR.ok _ (by (repeat' first | dsimp | simp only [castRow_self] | apply And.intro) <;> first | rfl | trivial | assumption | omega | (intros; and_intros <;> first | rfl | trivial | assumption | omega)) ?_; refine ⟨j + 1, ⟨ej, fun i hi => ?_⟩, LeG.to MR.ok [0] hcx rfl ⟨?_, rfl, rfl, rfl, rfl, rfl, rfl, rfl, rfl⟩, by omega⟩
    · rcases Nat.eq_or_lt_of_le (Nat.le_of_lt_succ hi) with h | h
      · rw [h, hx]; exact hlt
      · exact hp i h
    · show Den.S.ren _ (Den.S.one (C.int .i64 (IntKind.i64.wrap (↑j + 1)))) = _; rw [IntWalk.i64_in _ (by omega)]; rfl
open Classical in
theorem o50 (l : List S24) (c : List S62) (hm : mayL l = true) (hw : wholeL c = true) : ∃ R B, (found l (slTo c c.length) → R = posL l (slTo c c.length) l.length ∧ B = decide (((slTo c c.length).length : Int) = (l.length : Int))) ∧ (¬ found l (slTo c c.length) → R = [] ∧ B = false) ∧
    CallStep Tryz.prog 50 [.one (.row 24 kIns (l.map f24)), .one (.row 62 kBun (c.map f62))] [] (.tup [(false, [.row 98 kS R]), (false, [.bool B])]) [] := by
  by_cases hf : found l (slTo c c.length)
  · exact ⟨_, _, fun _ => ⟨rfl, rfl⟩, fun h => absurd hf h, (o50w l c hm hw _ _ (fun _ => ⟨rfl, rfl⟩) fun h => absurd hf h).froz rfl⟩
  · exact ⟨_, _, fun h => absurd h hf, fun _ => ⟨rfl, rfl⟩, (o50w l c hm hw _ _ (fun h => absurd h hf) fun _ => ⟨rfl, rfl⟩).froz rfl⟩
end Go.Den
end
