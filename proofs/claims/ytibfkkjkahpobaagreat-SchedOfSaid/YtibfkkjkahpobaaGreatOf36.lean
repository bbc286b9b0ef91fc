import Derived.Test.YtibfkkjkahpobaaGreatOf34
import Derived.Test.YtibfkkjkahpobaaGreatOf33
import Derived.Test.YtibfkkjkahpobaaGreatOf25
import Derived.Test.YtibfkkjkahpobaaGreatOf27
import Derived.Test.YtibfkkjkahpobaaGreatOf35
set_option linter.unusedVariables false
set_option linter.unusedSimpArgs false
set_option maxHeartbeats 8000000
set_option maxRecDepth 100000
section
-- the texts that this claim needs, out of this session's and its print's (wip/shrink.py)
namespace Go.Den
open Go Go.RowKit Go.Proofs Go.Proofs.YtibfkkjkahpobaaGreatW.PrintWords Go.Proofs.YtibfkkjkahpobaaGreat.PDag
def gl (m : Int → Int → Int) (val : S100 → Int → Int) (l : List S24) (i q : Nat) (h : List Int) : List Int := h.set i (gfold m val h (((edges l).drop q).filter (fun e => e.f0 == (i : Int))) (rd h (i : Int)))
theorem at100 (E : List S100) (q : Nat) (h : q < E.length) : (E.map f100).getD q (K.zero kE) = f100 E[q] := by
  rw [List.getD_eq_getElem?_getD, List.getElem?_map, List.getElem?_eq_getElem h]; rfl
section
variable {m : Int → Int → Int} {val : S100 → Int → Int} {l : List S24} {i q : Nat} {h : List Int}
theorem edge_to (hq : q < (edges l).length) (h0 : (edges l)[q].f0 = (i : Int)) : ∃ t : Nat, (edges l)[q].f1 = (t : Int) ∧ i < t ∧ t < l.length := by
  obtain ⟨a, t, ea, et, h3, h4⟩ := edges_range l _ _ _ (List.getElem_mem hq); exact ⟨t, et, by omega, h4⟩
theorem gl_hit (hi : i < h.length) (hq : q < (edges l).length) (h0 : (edges l)[q].f0 = (i : Int)) : gl m val l i (q + 1) (h.set i (m (rd h (i : Int)) (val (edges l)[q] (rd h (edges l)[q].f1)))) = gl m val l i q h := by
  unfold gl; rw [List.drop_eq_getElem_cons hq, List.filter_cons_of_pos (by simpa using h0)]
  exact gfold_step h i _ _ hi fun e he => by
    obtain ⟨h1, h2⟩ := List.mem_filter.1 he; obtain ⟨a, t, ea, et, h3, h4⟩ := edges_range l _ _ e (List.mem_of_mem_drop h1); have h2 : e.f0 = (i : Int) := by simpa using h2
    exact ⟨t, et, by omega⟩
theorem gl_miss (hq : q < (edges l).length) (h0 : ¬ (edges l)[q].f0 = (i : Int)) : gl m val l i (q + 1) h = gl m val l i q h := by
  unfold gl; rw [List.drop_eq_getElem_cons hq, List.filter_cons_of_neg (by simpa using h0)]
theorem gl_end (hi : i < h.length) : gl m val l i (edges l).length h = h := by
  unfold gl gfold; rw [List.drop_of_length_le (Nat.le_refl _), List.filter_nil, List.foldl_nil, set_rd _ _ hi]
theorem gl_out {init : List Int} {v : Int} (hi : i < l.length) (hl : h.length = l.length) (hI : init.length = l.length) (ha : ∀ t : Nat, i + 1 ≤ t → t < l.length → rd h (t : Int) = rd (gAt m val init l (l.length - (i + 1))) (t : Int)) (hv : v = rd init (i : Int)) :
    ∀ t : Nat, i ≤ t → t < l.length → rd (gl m val l i 0 (h.set i v)) (t : Int) = rd (gAt m val init l (l.length - i)) (t : Int) := by
  have hf : (edges l).filter (fun e => e.f0 == (i : Int)) = edgesFrom l i := by
    unfold edges; rw [edgesUp_filter, if_pos (by omega)]
  have hg := gAt_len m val init l (l.length - (i + 1)); unfold gl; rw [List.drop_zero, hf, show l.length - i = (l.length - (i + 1)) + 1 by omega, gAt_succ, show l.length - (l.length - (i + 1) + 1) = i by omega]; exact same_from l h _ i _ (by omega) hl (by omega) (fun t h1 h2 => ha t (by omega) h2) (by rw [gAt_below m val init l _ i (by omega), hv])
end
theorem o43 (l : List S24) (hn : l.length ≤ 200) (ho : okA l) : CallStep Tryz.prog 43 [.one (.row 24 kIns (l.map f24))] [] (.one (.own 0)) [.row 3 kI (heights l)] := by
  have hL : (l.map f24).length = l.length := List.length_map ..; have hfew := edges_few l hn; have hE : ((edges l).map f100).length = (edges l).length := List.length_map ..; have hb0 : rowB 8 (l.map f24).length := by rw [hL]; show _ * _ ≤ _; omega
  have hI : (lates l).length = l.length := by unfold lates; rw [List.length_map]
  refine CallStep.intro' (n := 64) (n0 := 0) (rs := [.tmp 2]) tb_ok Tryz.func43 (by kernel_rfl) rfl rfl rfl rfl rfl fun cx hcx => ?_; refine W.sO tb_ok ?_; refine W.sO tb_ok ?_; have q0_ := o45 l hn ho; refine W.sO tb_ok ?_; refine W.seq ?_; refine W.sO tb_ok ?_; refine W.block (W.loop (fun p : Nat × List Int => ⟨[(5, .one (.int .i64 ((p.1 : Int) - 1))), (3, .one (.own 0)), (4, .one (.own 1)), (0, .one (.row 24 kIns (l.map f24)))], [.row 3 kI p.2, .row 100 kE ((edges l).map f100)], 64⟩) (fun p => p.1) (fun p => p.1 ≤ l.length ∧ p.2.length = l.length ∧ ∀ t : Nat, p.1 ≤ t → t < l.length → rd p.2 (t : Int) = rd (gAt max hval (lates l) l (l.length - p.1)) (t : Int)) (l.length, List.replicate l.length 0) ⟨Nat.le_refl _, List.length_replicate, fun t h1 h2 => absurd h2 (by omega)⟩ (Le.to [1, 2] hcx rfl ⟨?_, rfl, rfl, rfl, ?_, rfl⟩) fun p hp => ?_)
  · show S.ren _ (S.one (.int .i64 (IntKind.i64.wrap (((l.map f24).length : Int) - 1)))) = _; rw [IntWalk.i64_in _ (by omega), hL]; rfl
  · rw [hL]; rfl
  obtain ⟨i, h⟩ := p; obtain ⟨hi, hl, ha⟩ := hp; simp only at hi hl ha
  cases i with
  | zero =>
    refine W.seq ?_; refine W.sO tb_ok ?_; refine W.if_ _ rfl (fun e => absurd (of_decide_eq_true e) (by show ¬ (0 : Int) ≤ -1; omega)) (fun e => W.exit ?_); refine W.sO tb_ok ?_; have hh : h = heights l := ext_rd h _ l.length hl (by rw [heights, gAt_len]; exact hI) (fun t ht => ha t (by omega) ht); subst hh
    exact W.ret ⟨trivial, [0], rfl, rfl, rfl⟩
  | succ i =>
  rw [show (((i + 1 : Nat) : Int) - 1) = (i : Int) by omega]; refine W.seq ?_; refine W.sO tb_ok ?_; refine W.if_ _ rfl (fun e => W.skip ?_) (fun e => absurd (of_decide_eq_false e) (by show ¬ ¬ (0 : Int) ≤ (i : Int); omega)); have hop := okI_op (okA_L ho i (by omega)); refine W.seq (W.block ?_); have h40 := o40 ((l.map f24).getD i (K.zero kIns)).1 (by rw [at24 l i (by omega)]; exact hop); have hv : lateOp ((l.map f24).getD i (K.zero kIns)).1 = rd (lates l) (i : Int) := by rw [at24 l i (by omega), lates_at l i (by omega)]; rfl
  rw [hv] at h40; refine W.sO tb_ok ?_; refine W.sO tb_ok ?_; generalize hh : gl max hval l i 0 (h.set i (rd (lates l) (i : Int))) = H; refine W.block (W.loop (fun q : Nat × List Int => ⟨[(5, .one (.int .i64 i)), (6, .one (.int .i64 q.1)), (3, .one (.own 0)), (4, .one (.own 1)), (0, .one (.row 24 kIns (l.map f24)))], [.row 3 kI q.2, .row 100 kE ((edges l).map f100)], 64⟩) (fun q => (edges l).length - q.1) (fun q => q.1 ≤ (edges l).length ∧ q.2.length = l.length ∧ gl max hval l i q.1 q.2 = H) (0, h.set i (rd (lates l) (i : Int))) ⟨Nat.zero_le _, by rw [List.length_set]; exact hl, hh⟩ (Le.to [0, 1] hcx rfl ⟨rfl, rfl, rfl, rfl, rfl, rfl, rfl⟩) fun q hq => ?_); obtain ⟨q, g⟩ := q; obtain ⟨hq, hgl, hgH⟩ := hq; simp only at hq hgl hgH; refine W.seq ?_; refine W.sO tb_ok ?_; refine W.if_ _ rfl (fun e => W.skip ?_) (fun e => W.exit ?_)
  case refine_2 =>
    have hj2 : q = (edges l).length := by have := of_decide_eq_false e; omega
    subst hj2; rw [gl_end (by omega)] at hgH; subst hgH; refine W.rO tb_ok ?_; refine ⟨(i, g), ⟨by show i ≤ _; omega, hgl, fun t h1 h2 => ?_⟩, Le.to [0, 1] hcx rfl ⟨?_, rfl, rfl, rfl, rfl, rfl⟩, Nat.lt_succ_self i⟩
    · show rd g (t : Int) = _; rw [← hh]; exact gl_out (by omega) hl hI ha rfl t h1 h2
    · show S.ren _ (S.one (.int .i64 (IntKind.i64.wrap (↑i - 1)))) = _; rw [IntWalk.i64_in _ (by omega)]; rfl
  have ej : q < (edges l).length := by have := of_decide_eq_true e; omega
  have hwj : IntKind.i64.wrap ((q : Int) + 1) = ((q + 1 : Nat) : Int) := IntWalk.i64_in _ (by omega); have hE1 := at100 (edges l) q ej; refine W.seq (W.block ?_); refine W.sO tb_ok ?_; refine W.if_ _ rfl (fun h0 => ?_) (fun h0 => W.skip ?_)
  · have h1 : (edges l)[q].f0 = (i : Int) := by rw [hE1] at h0; exact eq_of_beq h0
    obtain ⟨t, ht, ht1, ht2⟩ := edge_to ej h1; have hq1 : ((edges l).map f100).getD q (K.zero kE) = ((i : Int), (t : Int), (edges l)[q].f2, ()) := by rw [hE1, ← h1, ← ht]; rfl
    have hq2 : 0 ≤ (((edges l).map f100).getD q (K.zero kE)).2.1 := by rw [hq1]; exact Int.natCast_nonneg t
    have hq3 : (((edges l).map f100).getD q (K.zero kE)).2.1 < (g.length : Int) := by rw [hq1]; show (t : Int) < _; omega
    have hq4 : Int.toNat (((edges l).map f100).getD q (K.zero kE)).2.1 < g.length := by rw [hq1]; show Int.toNat (t : Int) < _; omega
    refine W.bO [22, 1] tb_ok ?_; refine W.rO tb_ok ?_; refine ⟨(q + 1, g.set i (max (rd g (i : Int)) (hval (edges l)[q] (rd g (edges l)[q].f1)))), ⟨ej, by show List.length _ = _; rw [List.length_set]; exact hgl, (gl_hit (by omega) ej h1).trans hgH⟩, Le.to [0, 1] hcx rfl ⟨rfl, ?_, rfl, rfl, rfl, ?_, rfl⟩, by show _ - (q + 1) < _ - q; omega⟩
    · show S.ren _ (S.one (.int .i64 (IntKind.i64.wrap (↑q + 1)))) = _; rw [hwj]; rfl
    · rw [hq1, ht]; unfold hval; rw [← Go.Proofs.YtibfkkjkahpobaaGreatW.PrintLast.i64_w]; rfl
  · have h1 : ¬ (edges l)[q].f0 = (i : Int) := by rw [hE1] at h0; exact fun h2 => absurd (beq_iff_eq.2 h2) (by rw [show ((edges l)[q].f0 == (i : Int)) = false from h0]; exact Bool.false_ne_true)
    refine W.rO tb_ok ?_; refine ⟨(q + 1, g), ⟨ej, hgl, (gl_miss ej h1).trans hgH⟩, Le.to [0, 1] hcx rfl ⟨rfl, ?_, rfl, rfl, rfl, rfl, rfl⟩, by show _ - (q + 1) < _ - q; omega⟩; show S.ren _ (S.one (.int .i64 (IntKind.i64.wrap (↑q + 1)))) = _; rw [hwj]; rfl
theorem o44 (l : List S24) (hn : l.length ≤ 200) (ho : okA l) : CallStep Tryz.prog 44 [.one (.row 24 kIns (l.map f24))] [] (.one (.own 0)) [.row 3 kI (urges l)] := by
  have hL : (l.map f24).length = l.length := List.length_map ..; have hfew := edges_few l hn; have hE : ((edges l).map f100).length = (edges l).length := List.length_map ..; have hb0 : rowB 8 (l.map f24).length := by rw [hL]; show _ * _ ≤ _; omega
  have hI : (firsts l.length 0 l).length = l.length := firsts_len _ _ _; refine CallStep.intro' (n := 64) (n0 := 0) (rs := [.tmp 2]) tb_ok Tryz.func44 (by kernel_rfl) rfl rfl rfl rfl rfl fun cx hcx => ?_; refine W.sO tb_ok ?_; refine W.sO tb_ok ?_; have q0_ := o45 l hn ho; refine W.sO tb_ok ?_; refine W.seq ?_; refine W.sO tb_ok ?_; refine W.block (W.loop (fun p : Nat × List Int => ⟨[(5, .one (.int .i64 ((p.1 : Int) - 1))), (3, .one (.own 0)), (4, .one (.own 1)), (0, .one (.row 24 kIns (l.map f24)))], [.row 3 kI p.2, .row 100 kE ((edges l).map f100)], 64⟩) (fun p => p.1) (fun p => p.1 ≤ l.length ∧ p.2.length = l.length ∧ ∀ t : Nat, p.1 ≤ t → t < l.length → rd p.2 (t : Int) = rd (gAt min uval (firsts l.length 0 l) l (l.length - p.1)) (t : Int)) (l.length, List.replicate l.length 0) ⟨Nat.le_refl _, List.length_replicate, fun t h1 h2 => absurd h2 (by omega)⟩ (Le.to [1, 2] hcx rfl ⟨?_, rfl, rfl, rfl, ?_, rfl⟩) fun p hp => ?_)
  · show S.ren _ (S.one (.int .i64 (IntKind.i64.wrap (((l.map f24).length : Int) - 1)))) = _; rw [IntWalk.i64_in _ (by omega), hL]; rfl
  · rw [hL]; rfl
  obtain ⟨i, h⟩ := p; obtain ⟨hi, hl, ha⟩ := hp; simp only at hi hl ha
  cases i with
  | zero =>
    refine W.seq ?_; refine W.sO tb_ok ?_; refine W.if_ _ rfl (fun e => absurd (of_decide_eq_true e) (by show ¬ (0 : Int) ≤ -1; omega)) (fun e => W.exit ?_); refine W.sO tb_ok ?_; have hh : h = urges l := ext_rd h _ l.length hl (by rw [urges, gAt_len]; exact hI) (fun t ht => ha t (by omega) ht); subst hh
    exact W.ret ⟨trivial, [0], rfl, rfl, rfl⟩
  | succ i =>
  rw [show (((i + 1 : Nat) : Int) - 1) = (i : Int) by omega]; refine W.seq ?_; refine W.sO tb_ok ?_; refine W.if_ _ rfl (fun e => W.skip ?_) (fun e => absurd (of_decide_eq_false e) (by show ¬ ¬ (0 : Int) ≤ (i : Int); omega)); have hop := okI_op (okA_L ho i (by omega)); refine W.seq (W.block ?_); have h80 := o80 ((l.map f24).getD i (K.zero kIns)).1 (by rw [at24 l i (by omega)]; exact hop); have hv : (if effOp ((l.map f24).getD i (K.zero kIns)).1 = true then (i : Int) else ((l.map f24).length : Int)) = rd (firsts l.length 0 l) (i : Int) := by rw [at24 l i (by omega), hL, firsts_at _ 0 l i (by omega), Nat.zero_add]; rfl
  refine W.sO tb_ok ?_; have hls : (h.set i ((l.map f24).length : Int)).length = l.length := by rw [List.length_set]; exact hl
  refine W.seq ?_; refine W.sO tb_ok ?_; refine W.ifJ ⟨[(5, .one (.int .i64 i)), (3, .one (.own 0)), (4, .one (.own 1)), (0, .one (.row 24 kIns (l.map f24)))], [.row 3 kI (h.set i (rd (firsts l.length 0 l) (i : Int))), .row 100 kE ((edges l).map f100)], 64⟩ _ rfl (fun e => ?_) (fun e => W.skip ?_) ?_
  · rw [if_pos e] at hv; rw [← hv]; refine W.rO tb_ok ?_; exact Le.to [0, 1] hcx rfl ⟨rfl, rfl, rfl, rfl, by show [Blk.row 3 kI ((h.set i ((l.map f24).length : Int)).set i (i : Int)), _] = _; rw [List.set_set]; rfl, rfl⟩
  · rw [if_neg (by rw [e]; exact Bool.false_ne_true)] at hv; rw [← hv]; exact Le.to [0, 1] hcx rfl ⟨rfl, rfl, rfl, rfl, rfl, rfl⟩
  refine W.sO tb_ok ?_; generalize hh : gl min uval l i 0 (h.set i (rd (firsts l.length 0 l) (i : Int))) = H; refine W.block (W.loop (fun q : Nat × List Int => ⟨[(5, .one (.int .i64 i)), (6, .one (.int .i64 q.1)), (3, .one (.own 0)), (4, .one (.own 1)), (0, .one (.row 24 kIns (l.map f24)))], [.row 3 kI q.2, .row 100 kE ((edges l).map f100)], 64⟩) (fun q => (edges l).length - q.1) (fun q => q.1 ≤ (edges l).length ∧ q.2.length = l.length ∧ gl min uval l i q.1 q.2 = H) (0, h.set i (rd (firsts l.length 0 l) (i : Int))) ⟨Nat.zero_le _, by rw [List.length_set]; exact hl, hh⟩ (Le.to [0, 1] hcx rfl ⟨rfl, rfl, rfl, rfl, rfl, rfl, rfl⟩) fun q hq => ?_); obtain ⟨q, g⟩ := q; obtain ⟨hq, hgl, hgH⟩ := hq; simp only at hq hgl hgH; refine W.seq ?_; refine W.sO tb_ok ?_; refine W.if_ _ rfl (fun e => W.skip ?_) (fun e => W.exit ?_)
  case refine_2 =>
    have hj2 : q = (edges l).length := by have := of_decide_eq_false e; omega
    subst hj2; rw [gl_end (by omega)] at hgH; subst hgH; refine W.rO tb_ok ?_; refine ⟨(i, g), ⟨by show i ≤ _; omega, hgl, fun t h1 h2 => ?_⟩, Le.to [0, 1] hcx rfl ⟨?_, rfl, rfl, rfl, rfl, rfl⟩, Nat.lt_succ_self i⟩
    · show rd g (t : Int) = _; rw [← hh]; exact gl_out (by omega) hl hI ha rfl t h1 h2
    · show S.ren _ (S.one (.int .i64 (IntKind.i64.wrap (↑i - 1)))) = _; rw [IntWalk.i64_in _ (by omega)]; rfl
  have ej : q < (edges l).length := by have := of_decide_eq_true e; omega
  have hwj : IntKind.i64.wrap ((q : Int) + 1) = ((q + 1 : Nat) : Int) := IntWalk.i64_in _ (by omega); have hE1 := at100 (edges l) q ej; refine W.seq (W.block ?_); refine W.sO tb_ok ?_; refine W.if_ _ rfl (fun h0 => ?_) (fun h0 => W.skip ?_)
  · have h1 : (edges l)[q].f0 = (i : Int) := by rw [hE1] at h0; exact eq_of_beq h0
    obtain ⟨t, ht, ht1, ht2⟩ := edge_to ej h1; have hq1 : ((edges l).map f100).getD q (K.zero kE) = ((i : Int), (t : Int), (edges l)[q].f2, ()) := by rw [hE1, ← h1, ← ht]; rfl
    have hq2 : 0 ≤ (((edges l).map f100).getD q (K.zero kE)).2.1 := by rw [hq1]; exact Int.natCast_nonneg t
    have hq3 : (((edges l).map f100).getD q (K.zero kE)).2.1 < (g.length : Int) := by rw [hq1]; show (t : Int) < _; omega
    have hq4 : Int.toNat (((edges l).map f100).getD q (K.zero kE)).2.1 < g.length := by rw [hq1]; show Int.toNat (t : Int) < _; omega
    refine W.bO [16, 1] tb_ok ?_; refine W.rO tb_ok ?_; refine ⟨(q + 1, g.set i (min (rd g (i : Int)) (uval (edges l)[q] (rd g (edges l)[q].f1)))), ⟨ej, by show List.length _ = _; rw [List.length_set]; exact hgl, (gl_hit (by omega) ej h1).trans hgH⟩, Le.to [0, 1] hcx rfl ⟨rfl, ?_, rfl, rfl, rfl, ?_, rfl⟩, by show _ - (q + 1) < _ - q; omega⟩
    · show S.ren _ (S.one (.int .i64 (IntKind.i64.wrap (↑q + 1)))) = _; rw [hwj]; rfl
    · rw [hq1, ht]; rfl
  · have h1 : ¬ (edges l)[q].f0 = (i : Int) := by rw [hE1] at h0; exact fun h2 => absurd (beq_iff_eq.2 h2) (by rw [show ((edges l)[q].f0 == (i : Int)) = false from h0]; exact Bool.false_ne_true)
    refine W.rO tb_ok ?_; refine ⟨(q + 1, g), ⟨ej, hgl, (gl_miss ej h1).trans hgH⟩, Le.to [0, 1] hcx rfl ⟨rfl, ?_, rfl, rfl, rfl, rfl, rfl⟩, by show _ - (q + 1) < _ - q; omega⟩; show S.ren _ (S.one (.int .i64 (IntKind.i64.wrap (↑q + 1)))) = _; rw [hwj]; rfl
end Go.Den
end
section
-- the texts that this claim needs, out of this session's and its print's (wip/shrink.py)
namespace Go.Den
open Go Go.RowKit Go.Proofs Go.Proofs.YtibfkkjkahpobaaGreatW.PrintWords Go.Proofs.YtibfkkjkahpobaaGreat.PDag
def rdF (E : List S100) (a : List Int) (i : Nat) (c : Int) (j : Nat) : Bool := (E.drop j).all fun e => e.f1 != (i : Int) || (decide (0 ≤ rd a e.f0) && decide (rd a e.f0 + e.f2 ≤ c))
theorem rdF_cond (t i r d c : Int) : (bif t == i then (bif decide (r < 0) then true else decide (r + d > c)) else false) = !(t != i || (decide (0 ≤ r) && decide (r + d ≤ c))) := by
  by_cases h1 : t = i
  · by_cases h2 : r < 0
    · simp [h1, h2]
    · by_cases h3 : r + d ≤ c
      · simp [h1, h2, h3, show 0 ≤ r by omega, show ¬ r + d > c by omega]
      · simp [h1, h2, h3, show 0 ≤ r by omega, show r + d > c by omega]
  · have hb : (t == i) = false := by simpa using h1
    simp [bne, hb]
theorem o47 (l : List S24) (hn : l.length ≤ 200) (a : List Int) (hal : a.length = l.length) (hup : ∀ i : Nat, i < l.length → -1 ≤ rd a i ∧ rd a i ≤ 1000) (i : Nat) (c : Int) :
    CallStep Tryz.prog 47 [.one (.row 100 kE ((edges l).map f100)), .one (.row 3 kI a), .one (.int .i64 i), .one (.int .i64 c)] [] (.one (.bool (rdy (edges l) a i c))) [] := by
  have hfew := edges_few l hn; have hE : ((edges l).map f100).length = (edges l).length := List.length_map ..; refine CallStep.intro' (n := 52) (n0 := 0) (rs := [.tmp 8]) tb_ok Tryz.func47 (by kernel_rfl) rfl rfl rfl rfl rfl fun cx hcx => ?_; refine W.sO tb_ok ?_; refine W.seq ?_; refine W.sO tb_ok ?_; refine W.block (W.loop (fun j : Nat => ⟨[(9, .one (.int .i64 j)), (0, .one (.row 100 kE ((edges l).map f100))), (1, .one (.row 3 kI a)), (2, .one (.int .i64 i)), (3, .one (.int .i64 c))], [], 52⟩) (fun j => (edges l).length - j) (fun j => j ≤ (edges l).length ∧ rdF (edges l) a i c j = rdy (edges l) a i c) 0 ⟨Nat.zero_le _, rfl⟩ (Le.to [] hcx rfl ⟨rfl, rfl, rfl, rfl, rfl, rfl, rfl⟩) fun j hj => ?_); obtain ⟨hj, hr⟩ := hj; refine W.seq ?_; refine W.sO tb_ok ?_; refine W.if_ _ rfl (fun e => W.skip ?_) (fun e => W.exit ?_)
  case refine_2 =>
    have hj2 : j = (edges l).length := by have := of_decide_eq_false e; omega
    subst hj2; refine W.sO tb_ok ?_; refine W.ret (endL1 (tb := tb) (n0 := 0) ?_ rfl rfl rfl); rw [← hr, rdF, List.drop_of_length_le (Nat.le_refl _)]; rfl
  have ej : j < (edges l).length := by have := of_decide_eq_true e; omega
  obtain ⟨x, t, ex, et, hxt, htn⟩ := edges_range l _ _ _ (List.getElem_mem ej); have hd := edges_dist l _ (List.getElem_mem ej); have hu := hup x (by omega); have hq1 : ((edges l).map f100).getD j (K.zero kE) = ((x : Int), (t : Int), (edges l)[j].f2, ()) := by rw [at100 _ j ej, ← ex, ← et]; rfl
  have hq2 : 0 ≤ (((edges l).map f100).getD j (K.zero kE)).1 := by rw [hq1]; exact Int.natCast_nonneg x
  have hq3 : (((edges l).map f100).getD j (K.zero kE)).1 < (a.length : Int) := by rw [hq1]; show (x : Int) < _; omega
  have hq4 : Int.toNat (((edges l).map f100).getD j (K.zero kE)).1 < a.length := by rw [hq1]; show Int.toNat (x : Int) < _; omega
  have hcond : (bif (((edges l).map f100).getD j (K.zero kE)).2.1 == (i : Int) then (bif decide (a.getD (Int.toNat (((edges l).map f100).getD j (K.zero kE)).1) (K.zero kI) < 0) then true else decide (IntKind.i64.wrap (a.getD (Int.toNat (((edges l).map f100).getD j (K.zero kE)).1) (K.zero kI) + (((edges l).map f100).getD j (K.zero kE)).2.2.1) > c)) else false) = !((edges l)[j].f1 != (i : Int) || (decide (0 ≤ rd a (edges l)[j].f0) && decide (rd a (edges l)[j].f0 + (edges l)[j].f2 ≤ c))) := by
    rw [hq1, ex, et, ← rdF_cond]; show (bif (t : Int) == (i : Int) then (bif decide (rd a (x : Int) < 0) then true else decide (IntKind.i64.wrap (rd a (x : Int) + (edges l)[j].f2) > c)) else false) = _; rw [IntWalk.i64_in _ (by omega)]
  have hstep : rdF (edges l) a i c j = (((edges l)[j].f1 != (i : Int) || (decide (0 ≤ rd a (edges l)[j].f0) && decide (rd a (edges l)[j].f0 + (edges l)[j].f2 ≤ c))) && rdF (edges l) a i c (j + 1)) := by
    unfold rdF; rw [List.drop_eq_getElem_cons ej, List.all_cons]
  refine W.seq (W.block ?_); refine W.aO [36] tb_ok ?_; refine W.if_ _ rfl (fun h => ?_) (fun h => W.skip ?_)
  · have h1 := hcond.symm.trans h; rw [show rdy (edges l) a i c = false by rw [← hr, hstep]; cases hb : ((edges l)[j].f1 != (i : Int) || (decide (0 ≤ rd a (edges l)[j].f0) && decide (rd a (edges l)[j].f0 + (edges l)[j].f2 ≤ c))); rfl; rw [hb] at h1; cases h1]; refine W.sO tb_ok ?_; exact W.ret (endL1 (tb := tb) (n0 := 0) rfl rfl rfl rfl)
  · have h1 := hcond.symm.trans h; refine W.rO tb_ok ?_; refine ⟨j + 1, ⟨ej, ?_⟩, Le.to [] hcx rfl ⟨?_, rfl, rfl, rfl, rfl, rfl, rfl⟩, by omega⟩
    · rw [← hr, hstep]; cases hb : ((edges l)[j].f1 != (i : Int) || (decide (0 ≤ rd a (edges l)[j].f0) && decide (rd a (edges l)[j].f0 + (edges l)[j].f2 ≤ c))); rw [hb] at h1; cases h1; rfl
    · show S.ren _ (S.one (.int .i64 (IntKind.i64.wrap (↑j + 1)))) = _; rw [IntWalk.i64_in _ (by omega)]; rfl
end Go.Den
end
section
-- the texts that this claim needs, out of this session's and its print's (wip/shrink.py)
namespace Go.Den
open Go Go.RowKit Go.Proofs Go.Proofs.YtibfkkjkahpobaaGreatW.PrintWords Go.Proofs.YtibfkkjkahpobaaGreat.PDag
def bst (l : List S24) (x : PSt) (c s : Int) (i : Nat) : Int := bestUp (cand (mayAt l) (edges l) x.at_ c s) (urges l) (heights l) i
theorem cand_cond (m a r : Bool) : (bif (bif a then true else !m) then true else !r) = !(m && (!a && r)) := by cases m <;> cases a <;> cases r <;> rfl
theorem better_cond (a b e h : Bool) : (bif (bif a then true else b) then true else bif e then h else false) = (a || (b || (e && h))) := by cases a <;> cases b <;> cases e <;> cases h <;> rfl
def cycOrd : OT := (.alt 0 (.alt 1 (.alt 2 (.alt 3 (.alt 4 (.alt 5 (.alt 6 (.alt 7 .done .none) .none) (.alt 6 (.alt 5 (.alt 7 .done .none) .none) .none)) (.alt 6 (.alt 4 (.alt 5 (.alt 7 .done .none) .none) .none) .none)) (.alt 6 (.alt 3 (.alt 4 (.alt 5 (.alt 7 .done .none) .none) .none) .none) .none)) (.alt 3 (.alt 2 (.alt 4 (.alt 5 (.alt 6 (.alt 7 .done .none) .none) (.alt 6 (.alt 5 (.alt 7 .done .none) .none) .none)) (.alt 6 (.alt 4 (.alt 5 (.alt 7 .done .none) .none) .none) .none)) (.alt 4 (.alt 2 (.alt 5 (.alt 6 (.alt 7 .done .none) .none) (.alt 6 (.alt 5 (.alt 7 .done .none) .none) .none)) (.alt 5 (.alt 2 (.alt 6 (.alt 7 .done .none) .none) .none) .none)) .none)) .none)) (.alt 3 (.alt 1 (.alt 2 (.alt 4 (.alt 5 (.alt 6 (.alt 7 .done .none) .none) (.alt 6 (.alt 5 (.alt 7 .done .none) .none) .none)) (.alt 6 (.alt 4 (.alt 5 (.alt 7 .done .none) .none) .none) .none)) (.alt 4 (.alt 2 (.alt 5 (.alt 6 (.alt 7 .done .none) .none) (.alt 6 (.alt 5 (.alt 7 .done .none) .none) .none)) (.alt 5 (.alt 2 (.alt 6 (.alt 7 .done .none) .none) .none) .none)) .none)) (.alt 4 (.alt 1 (.alt 2 (.alt 5 (.alt 6 (.alt 7 .done .none) .none) (.alt 6 (.alt 5 (.alt 7 .done .none) .none) .none)) (.alt 5 (.alt 2 (.alt 6 (.alt 7 .done .none) .none) .none) .none)) (.alt 5 (.alt 1 (.alt 2 (.alt 6 (.alt 7 .done .none) .none) .none) .none) .none)) .none)) .none)) (.alt 3 (.alt 0 (.alt 1 (.alt 2 (.alt 4 (.alt 5 (.alt 6 (.alt 7 .done .none) .none) (.alt 6 (.alt 5 (.alt 7 .done .none) .none) .none)) (.alt 6 (.alt 4 (.alt 5 (.alt 7 .done .none) .none) .none) .none)) (.alt 4 (.alt 2 (.alt 5 (.alt 6 (.alt 7 .done .none) .none) (.alt 6 (.alt 5 (.alt 7 .done .none) .none) .none)) (.alt 5 (.alt 2 (.alt 6 (.alt 7 .done .none) .none) .none) .none)) .none)) (.alt 4 (.alt 1 (.alt 2 (.alt 5 (.alt 6 (.alt 7 .done .none) .none) (.alt 6 (.alt 5 (.alt 7 .done .none) .none) .none)) (.alt 5 (.alt 2 (.alt 6 (.alt 7 .done .none) .none) .none) .none)) (.alt 5 (.alt 1 (.alt 2 (.alt 6 (.alt 7 .done .none) .none) .none) .none) .none)) .none)) (.alt 4 (.alt 0 (.alt 1 (.alt 2 (.alt 5 (.alt 6 (.alt 7 .done .none) .none) (.alt 6 (.alt 5 (.alt 7 .done .none) .none) .none)) (.alt 5 (.alt 2 (.alt 6 (.alt 7 .done .none) .none) .none) .none)) (.alt 5 (.alt 1 (.alt 2 (.alt 6 (.alt 7 .done .none) .none) .none) .none) .none)) (.alt 5 (.alt 0 (.alt 1 (.alt 2 (.alt 6 (.alt 7 .done .none) .none) .none) .none) .none) .none)) .none)) .none))
theorem o13 (l : List S24) (hm : mayL l = true) : CallStep Tryz.prog 13 [.one (.row 24 kIns (l.map f24))] [] (.tup [(false, [.row 3 kI (cycF l).at_]), (false, [.row 3 kI (cycF l).sl])]) [] := by
  have hn := (mayL_parts hm).1; have ho := mayL_ok hm; have hL : (l.map f24).length = l.length := List.length_map ..; have hUl := urges_len l; have hHl := heights_len l; have h43 := (o43 l hn ho).froz (s' := .one (.row 3 kI (heights l))) rfl; have h44 := (o44 l hn ho).froz (s' := .one (.row 3 kI (urges l))) rfl; have h45 := (o45 l hn ho).froz (s' := .one (.row 100 kE ((edges l).map f100))) rfl; have hb0 : rowB 8 (l.map f24).length := by rw [hL]; show _ * _ ≤ _; omega
  refine CallStep.froz (s := .tup [(false, [.own 0]), (false, [.own 1])]) (H1 := [.row 3 kI (cycF l).at_, .row 3 kI (cycF l).sl]) ?_ rfl; refine CallStep.intro' (n := 125) (n0 := 0) (rs := [.tmp 2, .tmp 3]) tb_ok Tryz.func13 (by kernel_rfl) rfl rfl rfl rfl rfl fun cx hcx => ?_; refine W.sO tb_ok ?_; refine W.seqO cycOrd ⟨[(0, .one (.row 24 kIns (l.map f24))), (4, .one (.own 0)), (5, .one (.own 1))], [.row 3 kI (List.replicate (l.map f24).length (0 : Int)), .row 3 kI (List.replicate (l.map f24).length (0 : Int))], 125⟩ tb_ok rfl (by kernel_rfl) (by (repeat' first | dsimp [cycOrd] | simp only [castRow_self] | apply And.intro) <;> first | rfl | trivial | assumption | omega | (intros; and_intros <;> first | rfl | trivial | assumption | omega) | exact Le.to [2, 3] hcx rfl ⟨rfl, rfl, rfl, rfl, rfl⟩ | exact Le.to [3, 2] hcx rfl ⟨rfl, rfl, rfl, rfl, rfl⟩) ?_; refine W.seq ?_; refine W.sO tb_ok ?_; refine W.block (W.loop (fun i : Nat => ⟨[(6, .one (.int .i64 i)), (0, .one (.row 24 kIns (l.map f24))), (4, .one (.own 0)), (5, .one (.own 1))], [.row 3 kI (List.replicate i (-1) ++ List.replicate (l.length - i) (0 : Int)), .row 3 kI (List.replicate l.length (0 : Int))], 125⟩) (fun i => l.length - i) (fun i => i ≤ l.length) 0 (Nat.zero_le _) (Le.to [0, 1] hcx rfl ⟨rfl, rfl, rfl, rfl, by rw [hL]; rfl, rfl⟩) fun i hi => ?_); have hal0 : (List.replicate i (-1) ++ List.replicate (l.length - i) (0 : Int)).length = l.length := by rw [List.length_append, List.length_replicate, List.length_replicate]; omega
  refine W.seq ?_; refine W.sO tb_ok ?_; refine W.if_ _ rfl (fun e => W.skip ?_) (fun e => W.exit ?_)
  · have e := of_decide_eq_true e; refine W.seq (W.block ?_); refine W.rO tb_ok ?_; refine W.rO tb_ok ?_; refine ⟨i + 1, by omega, Le.to [0, 1] hcx rfl ⟨?_, rfl, rfl, rfl, ?_, rfl⟩, by omega⟩
    · show S.ren _ (S.one (.int .i64 (IntKind.i64.wrap (↑i + 1)))) = _; rw [IntWalk.i64_in _ (by omega)]; rfl
    · have : (List.replicate i (-1) ++ List.replicate (l.length - i) (0 : Int)).set i (-1) = List.replicate (i + 1) (-1) ++ List.replicate (l.length - (i + 1)) (0 : Int) := by
        rw [List.set_append_right _ _ (by simp), List.length_replicate, Nat.sub_self, show l.length - i = (l.length - (i + 1)) + 1 by omega, List.replicate_succ, List.set_cons_zero, List.replicate_succ', List.append_assoc]; rfl
      rw [← this]; rfl
  have hi2 : i = l.length := by have := of_decide_eq_false e; omega
  subst hi2; rw [Nat.sub_self, List.replicate_zero, List.append_nil]; refine W.sO tb_ok ?_; refine W.sO tb_ok ?_; refine W.seq ?_; refine W.sO tb_ok ?_; refine W.block (W.loop (fun p : Nat × Nat × PSt => ⟨[(10, .one (.int .i64 p.2.2.left)), (11, .one (.int .i64 p.2.1)), (4, .one (.own 0)), (5, .one (.own 1)), (0, .one (.row 24 kIns (l.map f24))), (7, .one (.row 3 kI (heights l))), (8, .one (.row 3 kI (urges l))), (9, .one (.row 100 kE ((edges l).map f100)))], [.row 3 kI p.2.2.at_, .row 3 kI p.2.2.sl], 125⟩) (fun p => p.1) (fun p => PGood l.length ((p.2.1 : Int) - 1) p.2.2 ∧ p.2.1 + p.1 ≤ 1000 ∧ Go.Proofs.YtibfkkjkahpobaaGreat.PDag.runN (mayAt l) l.length (edges l) (urges l) (heights l) p.1 p.2.1 p.2.2 = cycF l) (4 * l.length, 0, x0F l.length) ⟨good0 l.length, by show 0 + 4 * l.length ≤ 1000; omega, rfl⟩ (Le.to [0, 1] hcx rfl ⟨by rw [hL]; rfl, rfl, rfl, rfl, rfl, rfl, rfl, rfl, rfl, rfl⟩) fun p hp => ?_); obtain ⟨f, c, x⟩ := p; obtain ⟨hg, hc, hrun⟩ := hp; simp only at hg hc hrun; refine W.seq ?_; refine W.sO tb_ok ?_; refine W.if_ _ rfl (fun e => W.skip ?_) (fun e => W.exit ?_)
  case refine_2 =>
    have e := of_decide_eq_false e; rw [run_done _ _ _ (by omega)] at hrun; subst hrun; refine W.sO tb_ok ?_; exact W.ret ⟨trivial, [0, 1], rfl, rfl, rfl⟩
  have e0 := of_decide_eq_true e; have hf : f ≠ 0 := fun hf => by subst hf; have := (cycF_ends ho).1; rw [← hrun] at this; have this : x.left = 0 := this; omega
  obtain ⟨f, rfl⟩ : ∃ f', f = f' + 1 := ⟨f - 1, by omega⟩
  have e1 : 0 < x.left := by omega
  rw [Go.Proofs.YtibfkkjkahpobaaGreat.PDag.runN, if_pos e1] at hrun; have g0 : PGood l.length (c : Int) x := hg.later (by omega); have g4 : PGood l.length (c : Int) (cycStep (mayAt l) l.length (edges l) (urges l) (heights l) x c) := cyc_good g0 (Int.natCast_nonneg c); refine W.seq (W.block ?_); refine W.sO tb_ok ?_; refine W.block (W.loop (fun s : Nat => ⟨[(10, .one (.int .i64 (atSlot (mayAt l) l.length (edges l) (urges l) (heights l) (c : Int) s x).left)), (11, .one (.int .i64 c)), (12, .one (.int .i64 s)), (4, .one (.own 0)), (5, .one (.own 1)), (0, .one (.row 24 kIns (l.map f24))), (7, .one (.row 3 kI (heights l))), (8, .one (.row 3 kI (urges l))), (9, .one (.row 100 kE ((edges l).map f100)))], [.row 3 kI (atSlot (mayAt l) l.length (edges l) (urges l) (heights l) (c : Int) s x).at_, .row 3 kI (atSlot (mayAt l) l.length (edges l) (urges l) (heights l) (c : Int) s x).sl], 125⟩) (fun s => 4 - s) (fun s => s ≤ 4) 0 (Nat.zero_le _) (Le.to [0, 1] hcx rfl ⟨rfl, rfl, rfl, rfl, rfl, rfl, rfl, rfl, rfl, rfl, rfl⟩) fun s hs => ?_); refine W.seq ?_; refine W.sO tb_ok ?_; refine W.if_ _ rfl (fun e => W.skip ?_) (fun e => W.exit ?_)
  case refine_2 =>
    have e := of_decide_eq_false e; obtain rfl : s = 4 := by omega
    rw [atSlot_four]; refine W.rO tb_ok ?_; refine ⟨(f, c + 1, cycStep (mayAt l) l.length (edges l) (urges l) (heights l) x c), ⟨by rw [show (((c + 1 : Nat) : Int) - 1) = (c : Int) by omega]; exact g4, by show c + 1 + f ≤ 1000; omega, by rw [← hrun, Int.natCast_succ]⟩, Le.to [0, 1] hcx rfl ⟨rfl, ?_, rfl, rfl, rfl, rfl, rfl, rfl, rfl, rfl⟩, Nat.lt_succ_self f⟩; show S.ren _ (S.one (.int .i64 (IntKind.i64.wrap (↑c + 1)))) = _; rw [IntWalk.i64_in _ (by omega)]; rfl
  have es : s < 4 := by have := of_decide_eq_true e; omega
  have hnext := atSlot_succ (mayAt l) l.length (edges l) (urges l) (heights l) (c : Int) s es x; have gy : PGood l.length (c : Int) (atSlot (mayAt l) l.length (edges l) (urges l) (heights l) (c : Int) s x) := fold_good (Int.natCast_nonneg c) _ x g0 (four4_mem _ s); have hnext2 : ∀ y : PSt, y = atSlot (mayAt l) l.length (edges l) (urges l) (heights l) (c : Int) s x → (atSlot (mayAt l) l.length (edges l) (urges l) (heights l) (c : Int) (s + 1) x = slotStep (mayAt l) l.length (edges l) (urges l) (heights l) y ((c : Int), (s : Int))) := fun y hy => by rw [hnext, hy]
  generalize atSlot (mayAt l) l.length (edges l) (urges l) (heights l) (c : Int) s x = y at gy hnext2 ⊢; have hnext := hnext2 y rfl; clear hnext2; have hya := gy.len; have hys := gy.len2; have hyl := gy.left; have hyo : opens_ y.at_ ≤ y.at_.length := List.countP_le_length; refine W.seq (W.block ?_); refine W.sO tb_ok ?_; refine W.seq ?_; refine W.sO tb_ok ?_; refine W.block (W.loop (fun i : Nat => ⟨[(10, .one (.int .i64 y.left)), (11, .one (.int .i64 c)), (12, .one (.int .i64 s)), (13, .one (.int .i64 (bst l y c s i))), (14, .one (.int .i64 i)), (4, .one (.own 0)), (5, .one (.own 1)), (0, .one (.row 24 kIns (l.map f24))), (7, .one (.row 3 kI (heights l))), (8, .one (.row 3 kI (urges l))), (9, .one (.row 100 kE ((edges l).map f100)))], [.row 3 kI y.at_, .row 3 kI y.sl], 125⟩) (fun i => l.length - i) (fun i => i ≤ l.length) 0 (Nat.zero_le _) (Le.to [0, 1] hcx rfl ⟨rfl, rfl, rfl, rfl, rfl, rfl, rfl, rfl, rfl, rfl, rfl, rfl, rfl⟩) fun i hi => ?_)
  have hbr : bst l y c s i = -1 ∨ (0 ≤ bst l y c s i ∧ bst l y c s i < (l.length : Int)) := by
    rcases bestUp_range (cand (mayAt l) (edges l) y.at_ c s) (urges l) (heights l) i with h1 | ⟨j, h1, h2, _⟩
    · exact .inl h1
    · exact .inr (by show 0 ≤ bestUp _ _ _ _ ∧ bestUp _ _ _ _ < _; rw [h2]; omega)
  have hbs : bst l y c s (i + 1) = if (cand (mayAt l) (edges l) y.at_ c s i && better (urges l) (heights l) (bst l y c s i) i) = true then (i : Int) else bst l y c s i := rfl
  refine W.seq ?_; refine W.sO tb_ok ?_; refine W.if_ _ rfl (fun e => W.skip ?_) (fun e => W.exit ?_)
  case refine_2 =>
    have hi2 : i = l.length := by have := of_decide_eq_false e; omega
    subst hi2; unfold slotStep at hnext; have hbst : bestUp (cand (mayAt l) (edges l) y.at_ ((c : Int), (s : Int)).1 ((c : Int), (s : Int)).2) (urges l) (heights l) l.length = bst l y c s l.length := rfl; simp only [hbst] at hnext; generalize bst l y c s l.length = bb at hbr hnext ⊢; refine W.sO tb_ok ?_; refine W.if_ _ rfl (fun e2 => ?_) (fun e2 => W.skip ?_)
    · have e2 := of_decide_eq_true e2; rw [if_pos (by omega)] at hnext; have hbt : bb.toNat < y.at_.length := by omega
      have hbt2 : bb.toNat < y.sl.length := by omega
      have hbt3 : 0 ≤ bb := by omega
      refine W.sO tb_ok ?_; refine W.rO tb_ok ?_; refine W.rO tb_ok ?_; refine ⟨s + 1, es, Le.to [0, 1] hcx rfl ⟨?_, rfl, ?_, rfl, rfl, rfl, rfl, rfl, rfl, ?_, rfl⟩, by omega⟩
      · show S.ren _ (S.one (.int .i64 (IntKind.i64.wrap (y.left - 1)))) = _; rw [IntWalk.i64_in _ (by omega), hnext]; rfl
      · show S.ren _ (S.one (.int .i64 (IntKind.i64.wrap (↑s + 1)))) = _; rw [IntWalk.i64_in _ (by omega)]; rfl
      · rw [hnext]; rfl
    · have e2 := of_decide_eq_false e2; rw [if_neg (by omega)] at hnext; refine W.rO tb_ok ?_; refine ⟨s + 1, es, Le.to [0, 1] hcx rfl ⟨by rw [hnext]; rfl, rfl, ?_, rfl, rfl, rfl, rfl, rfl, rfl, by rw [hnext]; rfl, rfl⟩, by omega⟩; show S.ren _ (S.one (.int .i64 (IntKind.i64.wrap (↑s + 1)))) = _; rw [IntWalk.i64_in _ (by omega)]; rfl
  have ei : i < l.length := by have := of_decide_eq_true e; omega
  have hop := okI_op (okA_L ho i ei); have hwi : IntKind.i64.wrap ((i : Int) + 1) = ((i + 1 : Nat) : Int) := IntWalk.i64_in _ (by omega); have h46 := o46 ((l.map f24).getD i (K.zero kIns)).1 (s : Int) (by rw [at24 l i ei]; exact hop) (by omega); rw [show mayOp ((l.map f24).getD i (K.zero kIns)).1 (s : Int) = mayAt l i s by rw [at24 l i ei]; rfl] at h46; have h47 := o47 l hn y.at_ hya (fun j hj => ⟨(gy.up j hj).1, Int.le_trans (gy.up j hj).2 (by omega)⟩) i (c : Int); refine W.seq (W.block ?_); refine W.seq ?_; refine W.sO tb_ok ?_
  have hcc : (bif (bif decide (y.at_.getD i (K.zero kI) ≥ 0) then true else !mayAt l i s) then true else !rdy (edges l) y.at_ i c) = !cand (mayAt l) (edges l) y.at_ c s i := by
    rw [cand_cond]; unfold cand; rw [show (!decide (y.at_.getD i (K.zero kI) ≥ 0)) = decide (rd y.at_ (i : Int) < 0) by rw [← decide_not]; exact decide_eq_decide.2 Int.not_le]
  refine W.if_ _ rfl (fun e3 => W.exit ?_) (fun e3 => W.skip ?_)
  · have e4 := hcc.symm.trans e3; rw [Bool.not_eq_true'] at e4; rw [e4, Bool.false_and, if_neg Bool.false_ne_true] at hbs; refine W.rO tb_ok ?_; refine ⟨i + 1, ei, Le.to [0, 1] hcx rfl ⟨rfl, rfl, rfl, ?_, ?_, rfl, rfl, rfl, rfl, rfl, rfl, rfl, rfl⟩, by omega⟩
    · rw [hbs]; rfl
    · show S.ren _ (S.one (.int .i64 (IntKind.i64.wrap (↑i + 1)))) = _; rw [hwi]; rfl
  have e4 := hcc.symm.trans e3; rw [Bool.not_eq_false'] at e4; rw [e4, Bool.true_and] at hbs; generalize bst l y c s i = bb at hbr hbs ⊢; have hg0 : decide (bb < 0) = false → 0 ≤ bb ∧ bb < (l.length : Int) := fun h => by have := of_decide_eq_false h; omega
  have hg1 : (!decide (bb < 0)) = true → 0 ≤ bb ∧ bb < (l.length : Int) := fun h => hg0 (by rw [Bool.not_eq_true'] at h; exact h); have hg2 : (!bif decide (bb < 0) then true else decide ((urges l).getD i (K.zero kI) < (urges l).getD bb.toNat (K.zero kI))) = true → 0 ≤ bb ∧ bb < (l.length : Int) := fun h => hg0 (by cases hd : decide (bb < 0); rfl; rw [hd] at h; cases h); have hg3 : ((!bif decide (bb < 0) then true else decide ((urges l).getD i (K.zero kI) < (urges l).getD bb.toNat (K.zero kI))) && ((urges l).getD i (K.zero kI) == (urges l).getD bb.toNat (K.zero kI))) = true → 0 ≤ bb ∧ bb < (l.length : Int) := fun h => hg2 (by rw [Bool.and_eq_true] at h; exact h.1); refine W.seqA [35] tb_ok rfl rfl _ (by (repeat' first | dsimp | simp only [castRow_self] | apply And.intro) <;> first | rfl | trivial | assumption | omega | (intros; and_intros <;> first | rfl | trivial | assumption | omega) | (intro h; rw [h]; rfl) | (intro h; have h1 : 0 ≤ bb ∧ bb < (l.length : Int) := (by first | exact hg1 h | exact hg2 h | exact hg3 h); and_intros <;> first | exact h | trivial | omega | (intro h2; first | trivial | (rw [h, h2]; rfl)))) ?_; have hbe : (bif (bif decide (bb < 0) then true else decide ((urges l).getD i (K.zero kI) < (urges l).getD bb.toNat (K.zero kI))) then true else bif ((urges l).getD i (K.zero kI) == (urges l).getD bb.toNat (K.zero kI)) then decide ((heights l).getD i (K.zero kI) > (heights l).getD bb.toNat (K.zero kI)) else false) = better (urges l) (heights l) bb i := better_cond _ _ _ _; refine W.if_ _ rfl (fun e5 => ?_) (fun e5 => W.skip ?_)
  · rw [if_pos (hbe.symm.trans e5)] at hbs; refine W.rO tb_ok ?_; refine W.rO tb_ok ?_; refine ⟨i + 1, ei, Le.to [0, 1] hcx rfl ⟨rfl, rfl, rfl, ?_, ?_, rfl, rfl, rfl, rfl, rfl, rfl, rfl, rfl⟩, by omega⟩
    · rw [hbs]; rfl
    · show S.ren _ (S.one (.int .i64 (IntKind.i64.wrap (↑i + 1)))) = _; rw [hwi]; rfl
  · rw [if_neg (by rw [← hbe]; exact fun h => Bool.false_ne_true (e5.symm.trans h))] at hbs; refine W.rO tb_ok ?_; refine ⟨i + 1, ei, Le.to [0, 1] hcx rfl ⟨rfl, rfl, rfl, ?_, ?_, rfl, rfl, rfl, rfl, rfl, rfl, rfl, rfl⟩, by omega⟩
    · rw [hbs]; rfl
    · show S.ren _ (S.one (.int .i64 (IntKind.i64.wrap (↑i + 1)))) = _; rw [hwi]; rfl
end Go.Den
end
section
-- the texts that this claim needs, out of this session's and its print's (wip/shrink.py)
namespace Go.Den
open Go Go.RowKit Go.Proofs Go.Proofs.YtibfkkjkahpobaaGreatW.PrintWords Go.Proofs.YtibfkkjkahpobaaGreat.PDag
theorem bif_and (a b : Bool) : (bif a then b else false) = (a && b) := by cases a <;> rfl
theorem o42 (at_ sl : List Int) (c : Int) (hl : at_.length = sl.length) (hn : at_.length ≤ 1000000) : CallStep Tryz.prog 42 [.one (.row 3 kI at_), .one (.row 3 kI sl), .one (.int .i64 c)] [] (.one (.bool (takenUp at_ sl c 0 at_.length))) [] := by
  refine CallStep.intro' (n := 27) (n0 := 0) (rs := [.tmp 6]) tb_ok Tryz.func42 (by kernel_rfl) rfl rfl rfl rfl rfl fun cx hcx => ?_; refine W.sO tb_ok ?_; refine W.seq ?_; refine W.sO tb_ok ?_; refine W.block (W.loop (fun i : Nat => ⟨[(7, .one (.int .i64 i)), (0, .one (.row 3 kI at_)), (1, .one (.row 3 kI sl)), (2, .one (.int .i64 c))], [], 27⟩) (fun i => at_.length - i) (fun i => i ≤ at_.length ∧ takenUp at_ sl c 0 i = false) 0 ⟨Nat.zero_le _, rfl⟩ (Le.to [] hcx rfl ⟨rfl, rfl, rfl, rfl, rfl, rfl⟩) fun i hi => ?_); obtain ⟨hi, ht⟩ := hi; refine W.seq ?_; refine W.sO tb_ok ?_; refine W.if_ _ rfl (fun e => W.skip ?_) (fun e => W.exit ?_)
  case refine_2 =>
    have hi2 : i = at_.length := by have := of_decide_eq_false e; omega
    subst hi2; refine W.sO tb_ok ?_; refine W.ret (endL1 (tb := tb) (n0 := 0) ?_ rfl rfl rfl); rw [ht]; rfl
  have ei : i < at_.length := by have := of_decide_eq_true e; omega
  have ei2 : i < sl.length := by omega
  refine W.seq (W.block ?_); refine W.sO tb_ok ?_; refine W.if_ _ rfl (fun h => ?_) (fun h => W.skip ?_)
  · have h1 : (rd at_ (i : Int) == c && rd sl (i : Int) == 0) = true := (bif_and _ _).symm.trans h; rw [takenUp_at at_ sl c 0 i h1 _ ei]; refine W.sO tb_ok ?_; exact W.ret (endL1 (tb := tb) (n0 := 0) rfl rfl rfl rfl)
  · have h1 : (rd at_ (i : Int) == c && rd sl (i : Int) == 0) = false := (bif_and _ _).symm.trans h; refine W.rO tb_ok ?_; refine ⟨i + 1, ⟨ei, by rw [takenUp, ht, h1]; rfl⟩, Le.to [] hcx rfl ⟨?_, rfl, rfl, rfl, rfl, rfl⟩, by omega⟩; show S.ren _ (S.one (.int .i64 (IntKind.i64.wrap (↑i + 1)))) = _; rw [IntWalk.i64_in _ (by omega)]; rfl
theorem hmx (a b : Int) : max a b = mx a b := by unfold mx; rw [Int.max_def]; split <;> split <;> omega
theorem rds_cond {x y : S24} (dy : 0 ≤ y.f1) {r : Int} (q : decide (r ≥ 0) = (readsL x).any (fun r => wOf y == r)) : (bif decide (wOf y ≥ 0) then decide (r ≥ 0) else false) = rdsP x y := by
  rw [q]; unfold rdsP wOf
  cases hasD (formOf y.f0) <;> simp [dy]
theorem o41 (l : List S24) (hn : l.length ≤ 200) (ho : okA l) (x : S24) (hx : 0 ≤ x.f0 ∧ x.f0 ≤ 33) (at_ : List Int) (ha : at_.length = l.length) :
    CallStep Tryz.prog 41 [.one (.row 24 kIns (l.map f24)), .agg (kIns.flat (f24 x)), .one (.row 3 kI at_)] [] (.one (.int .i64 (lastOf l x at_))) [] := by
  have hL : (l.map f24).length = l.length := List.length_map ..; have ox := o80 x.f0 hx; refine CallStep.intro' (n := 84) (n0 := 0) (rs := [.tmp 6]) tb_ok Tryz.func41 (by kernel_rfl) rfl rfl rfl rfl rfl fun cx hcx => ?_; refine W.sO tb_ok ?_; refine W.seq ?_; refine W.sO tb_ok ?_; refine W.if_ _ rfl (fun e => ?_) (fun e => W.skip ?_)
  · have e : x.f0 = 0 := eq_of_beq e; refine W.sO tb_ok ?_; refine W.ret (endL1 (tb := tb) (n0 := 0) ?_ rfl rfl rfl); rw [lastOf, if_pos e]; rfl
  have e0 : ¬ x.f0 = 0 := fun h => by have e : (x.f0 == 0) = false := e; rw [h] at e; cases e
  have hlo : lastOf l x at_ = lastUp l at_ x l.length 0 0 := by rw [lastOf, if_neg e0]
  refine W.sO tb_ok ?_; refine W.sO tb_ok ?_; refine W.seq ?_; refine W.sO tb_ok ?_; refine W.block (W.loop (fun p : Nat × Int => ⟨[(7, .one (.int .i64 p.2)), (8, .one (.bool (x.f0 == 33))), (9, .one (.int .i64 p.1)), (0, .one (.row 24 kIns (l.map f24))), (2, .one (.row 3 kI at_)), (4, .one (.ptr 0 0))], [.box 24 (kIns.flat (f24 x))], 84⟩) (fun p => l.length - p.1) (fun p => p.1 ≤ l.length ∧ lastUp l at_ x (l.length - p.1) p.1 p.2 = lastOf l x at_) (0, 0) ⟨Nat.zero_le _, hlo.symm⟩ (Le.to [0] hcx rfl ⟨rfl, rfl, rfl, rfl, rfl, rfl, rfl, rfl⟩) fun p hp => ?_); obtain ⟨i, n⟩ := p; obtain ⟨hi, hr⟩ := hp; simp only at hi hr; refine W.seq ?_; refine W.sO tb_ok ?_; refine W.if_ _ rfl (fun e => W.skip ?_) (fun e => W.exit ?_)
  case refine_2 =>
    have hi2 : i = l.length := by have := of_decide_eq_false e; omega
    subst hi2; rw [Nat.sub_self, lastUp] at hr; subst hr; refine W.sO tb_ok ?_; exact W.ret (endL1 (tb := tb) (n0 := 0) rfl rfl rfl rfl)
  have ei : i < l.length := by have := of_decide_eq_true e; omega
  rw [show l.length - i = (l.length - (i + 1)) + 1 by omega, lastUp] at hr; have hy := at24 l i ei; have hoy := okA_L ho i ei; generalize J24 l i = y at hy hoy hr; have oy := okI_op hoy; have dy := okI_d hoy; have h40 := o40 ((l.map f24).getD i (K.zero kIns)).1 (by rw [hy]; exact oy); rw [show lateOp ((l.map f24).getD i (K.zero kIns)).1 = lateOp y.f0 by rw [hy]; rfl] at h40; have h80 := o80 ((l.map f24).getD i (K.zero kIns)).1 (by rw [hy]; exact oy); rw [show effOp ((l.map f24).getD i (K.zero kIns)).1 = effOp y.f0 by rw [hy]; rfl] at h80; have h77 := o77 (g24 ((l.map f24).getD i (K.zero kIns))) (by rw [hy]; exact oy); rw [show wOf (g24 ((l.map f24).getD i (K.zero kIns))) = wOf y by rw [hy]; rfl] at h77; obtain ⟨r, e1, q1⟩ := in_eq (Nat.le_refl 5) x (wOf y); have hea : i < at_.length := by omega
  refine W.seq (W.block ?_); refine W.aO [12] tb_ok ?_; refine W.seq ?_; refine W.sO tb_ok ?_; have q0_ := o79 x hx; have q1_ := o78 (readsL x) (wOf y) r e1; refine W.sO tb_ok ?_; generalize hd1 : step1 x y (rd at_ (i : Int)) n = n1 at hr; unfold step1 at hd1; refine W.ifJ ⟨[(7, .one (.int .i64 n1)), (8, .one (.bool (x.f0 == 33))), (9, .one (.int .i64 i)), (0, .one (.row 24 kIns (l.map f24))), (2, .one (.row 3 kI at_)), (4, .one (.ptr 0 0)), (10, .one (.int .i64 (rd at_ (i : Int)))), (11, .one (.int .i64 (lateOp y.f0)))], [.box 24 (kIns.flat (f24 x))], 84⟩ _ rfl (fun e => ?_) (fun e => W.skip ?_) ?_
  · rw [if_pos ((rds_cond dy q1).symm.trans e)] at hd1; subst hd1; rw [← hmx, ← Go.Proofs.YtibfkkjkahpobaaGreatW.PrintLast.i64_w]; refine W.rO tb_ok ?_; exact Le.to [0] hcx rfl ⟨rfl, rfl, rfl, rfl, rfl, rfl, rfl, rfl, rfl, rfl⟩
  · rw [if_neg (fun h => Bool.false_ne_true (((rds_cond dy q1).symm.trans e).symm.trans h))] at hd1; subst hd1; exact Le.to [0] hcx rfl ⟨rfl, rfl, rfl, rfl, rfl, rfl, rfl, rfl, rfl, rfl⟩
  refine W.seq ?_; refine W.sO tb_ok ?_; have hc2 : (bif x.f0 == 33 then true else bif effOp x.f0 then effOp y.f0 else false) = (decide (x.f0 = 33) || (effOp x.f0 && effOp y.f0)) := by rw [show (x.f0 == 33) = decide (x.f0 = 33) from rfl]; cases decide (x.f0 = 33) <;> cases effOp x.f0 <;> cases effOp y.f0 <;> rfl
  generalize hd2 : step2 x y (rd at_ (i : Int)) n1 = n2 at hr; unfold step2 at hd2; refine W.ifJ ⟨[(7, .one (.int .i64 n2)), (8, .one (.bool (x.f0 == 33))), (9, .one (.int .i64 i)), (0, .one (.row 24 kIns (l.map f24))), (2, .one (.row 3 kI at_)), (4, .one (.ptr 0 0)), (10, .one (.int .i64 (rd at_ (i : Int)))), (11, .one (.int .i64 (lateOp y.f0)))], [.box 24 (kIns.flat (f24 x))], 84⟩ _ rfl (fun e => ?_) (fun e => W.skip ?_) ?_
  · rw [if_pos (hc2.symm.trans e)] at hd2; subst hd2; rw [← hmx, ← Go.Proofs.YtibfkkjkahpobaaGreatW.PrintLast.i64_w]; refine W.rO tb_ok ?_; exact Le.to [0] hcx rfl ⟨rfl, rfl, rfl, rfl, rfl, rfl, rfl, rfl, rfl, rfl⟩
  · rw [if_neg (fun h => Bool.false_ne_true ((hc2.symm.trans e).symm.trans h))] at hd2; subst hd2; exact Le.to [0] hcx rfl ⟨rfl, rfl, rfl, rfl, rfl, rfl, rfl, rfl, rfl, rfl⟩
  refine W.sO tb_ok ?_; generalize hd3 : step3 x y (rd at_ (i : Int)) n2 = n3 at hr; unfold step3 at hd3; refine W.if_ _ rfl (fun e => ?_) (fun e => W.skip ?_)
  · rw [if_neg (fun h => by have e : (!(x.f0 == 33)) = true := e; rw [h] at e; cases e)] at hd3; refine W.rO tb_ok ?_; refine W.rO tb_ok ?_; refine ⟨(i + 1, n3), ⟨ei, hr⟩, Le.to [0] hcx rfl ⟨?_, rfl, ?_, rfl, rfl, rfl, rfl, rfl⟩, by show _ - (i + 1) < _ - i; omega⟩
    · rw [← hd3, ← hmx, ← hmx, ← Go.Proofs.YtibfkkjkahpobaaGreatW.PrintLast.i64_w, ← Go.Proofs.YtibfkkjkahpobaaGreatW.PrintLast.i64_w, ← Go.Proofs.YtibfkkjkahpobaaGreatW.PrintLast.i64_w, ← Go.Proofs.YtibfkkjkahpobaaGreatW.PrintLast.i64_w]; rfl
    · show S.ren _ (S.one (.int .i64 (IntKind.i64.wrap (↑i + 1)))) = _; rw [IntWalk.i64_in _ (by omega)]; rfl
  · rw [if_pos (by have e : (!(x.f0 == 33)) = false := e; rw [Bool.not_eq_false'] at e; exact eq_of_beq e)] at hd3; subst hd3; refine W.rO tb_ok ?_; refine ⟨(i + 1, n2), ⟨ei, hr⟩, Le.to [0] hcx rfl ⟨rfl, rfl, ?_, rfl, rfl, rfl, rfl, rfl⟩, by show _ - (i + 1) < _ - i; omega⟩
    · show S.ren _ (S.one (.int .i64 (IntKind.i64.wrap (↑i + 1)))) = _; rw [IntWalk.i64_in _ (by omega)]; rfl
end Go.Den
end
section
-- the texts that this claim needs, out of this session's and its print's (wip/shrink.py)
namespace Go.Den
open Go Go.RowKit Go.Proofs Go.Proofs.YtibfkkjkahpobaaGreatW.PrintWords Go.Proofs.YtibfkkjkahpobaaGreat.PDag
theorem mayBlk_may {l : List S24} {x : S24} (hm : mayBlk l x = true) : mayL l = true ∧ 0 ≤ x.f0 ∧ x.f0 ≤ 33 := by
  unfold mayBlk at hm; simp only [Bool.and_eq_true] at hm; obtain ⟨h1, h2⟩ := hm; unfold mayL
  by_cases hz : zeroI x = true
  · rw [if_pos hz] at h2; have h0 : x.f0 = 0 := by unfold zeroI at hz; simp only [Bool.and_eq_true] at hz; exact eq_of_beq hz.1
    exact ⟨by rw [h1, h2]; rfl, by omega, by omega⟩
  · rw [if_neg hz] at h2; simp only [Bool.and_eq_true, decide_eq_true_eq] at h2; have h3 := okI_op h2.1; exact ⟨by rw [h1, decide_eq_true (by omega)]; rfl, h3.1, h3.2⟩
theorem at62 (c : List S62) (i : Nat) (h : i < c.length) : (c.map f62).getD i (K.zero kBun) = f62 (J62 c i) := by
  rw [show J62 c (i : Int) = c[i] by unfold J62; rw [Int.toNat_natCast, List.getD_eq_getElem?_getD, List.getElem?_eq_getElem h]; rfl, List.getD_eq_getElem?_getD, List.getElem?_map, List.getElem?_eq_getElem h]; rfl
theorem o11 (b : S41) (hm : mayBlk b.f1 b.f2 = true) : CallStep Tryz.prog 11 [.agg (kBlk.flat (f41 b))] [] (.one (.row 62 kBun ((bunF b.f1 b.f2).map f62))) [] := by
  obtain ⟨ls, l, x⟩ := b; obtain ⟨hml, hx⟩ := mayBlk_may hm; have hn := (mayL_parts hml).1; have ho := mayL_ok hml; clear hm; simp only at hml hx hn ho ⊢; have hL : (l.map f24).length = l.length := List.length_map ..; have hcl := cyc_len ho; have hci := fun i hi => cyc_in ho hn i hi; have hbd := endC_bd ho hn x; have h13 := o13 l hml; have h41 := o41 l hn ho x hx (cycF l).at_ hcl.1; have h42 := fun c => o42 (cycF l).at_ (cycF l).sl c (by rw [hcl.1, hcl.2]) (by rw [hcl.1]; omega); rw [hcl.1] at h42; refine CallStep.froz (s := .one (.own 0)) (H1 := [.row 62 kBun ((bunF l x).map f62)]) ?_ rfl; show CallStep Tryz.prog 11 [.agg (kBlk.flat ((ls, l.map f24, f24 x, ()) : kBlk.T))] [] _ _; refine CallStep.intro' (n := 95) (n0 := 0) (rs := [.tmp 2]) tb_ok Tryz.func11 (by kernel_rfl) rfl rfl rfl rfl rfl fun cx hcx => ?_; refine W.sO tb_ok ?_; refine W.sO tb_ok ?_; refine W.sO tb_ok ?_; refine W.seq ?_; refine W.sO tb_ok ?_; refine W.block (W.loop (fun i : Nat => ⟨[(5, .one (.int .i64 (longUp l (cycF l).at_ i))), (6, .one (.int .i64 i)), (1, .one (.ptr 0 0)), (3, .one (.row 3 kI (cycF l).at_)), (4, .one (.row 3 kI (cycF l).sl))], [.box 41 (kBlk.flat ((ls, l.map f24, f24 x, ()) : kBlk.T))], 95⟩) (fun i => l.length - i) (fun i => i ≤ l.length) 0 (Nat.zero_le _) (Le.to [0] hcx rfl ⟨rfl, rfl, rfl, rfl, rfl, rfl, rfl⟩) fun i hi => ?_); refine W.seq ?_; refine W.sO tb_ok ?_; refine W.if_ _ rfl (fun e => W.skip ?_) (fun e => W.exit ?_)
  · have ei : i < l.length := by have := of_decide_eq_true e; omega
    have hy := at24 l i ei; have h40 := o40 ((l.map f24).getD i (K.zero kIns)).1 (by rw [hy]; exact okI_op (okA_L ho i ei)); rw [show lateOp ((l.map f24).getD i (K.zero kIns)).1 = lateOp (J24 l i).f0 by rw [hy]; rfl] at h40; have hea : i < (cycF l).at_.length := by rw [hcl.1]; exact ei
    refine W.seq (W.block ?_); refine W.bO [14, 1] tb_ok ?_; refine W.rO tb_ok ?_; refine ⟨i + 1, ei, Le.to [0] hcx rfl ⟨?_, ?_, rfl, rfl, rfl, rfl, rfl⟩, by omega⟩
    · rw [longUp, ← hmx, ← Go.Proofs.YtibfkkjkahpobaaGreatW.PrintLast.i64_w]; rfl
    · show S.ren _ (S.one (.int .i64 (IntKind.i64.wrap (↑i + 1)))) = _; rw [IntWalk.i64_in _ (by omega)]; rfl
  have hi2 : i = l.length := by have := of_decide_eq_false e; omega
  subst hi2; refine W.sO tb_ok ?_; refine W.seq ?_; refine W.sO tb_ok ?_; refine W.ifJ ⟨[(5, .one (.int .i64 (endC l x).2)), (7, .one (.int .i64 (endC l x).1)), (1, .one (.ptr 0 0)), (3, .one (.row 3 kI (cycF l).at_)), (4, .one (.row 3 kI (cycF l).sl))], [.box 41 (kBlk.flat ((ls, l.map f24, f24 x, ()) : kBlk.T))], 95⟩ _ rfl (fun e => ?_) (fun e => W.skip ?_) ?_
  case refine_2 =>
    have e0 : x.f0 = 0 := by have e : (!(x.f0 == 0)) = false := e; rw [Bool.not_eq_false'] at e; exact eq_of_beq e
    have he : endC l x = (-1, longUp l (cycF l).at_ l.length) := by unfold endC; rw [if_pos e0]
    rw [he]; exact Le.to [0] hcx rfl ⟨rfl, rfl, rfl, rfl, rfl, rfl, rfl⟩
  · have e0 : ¬ x.f0 = 0 := fun h => by have e : (!(x.f0 == 0)) = true := e; rw [h] at e; cases e
    have he : endC l x = (freeFrom (cycF l).at_ (cycF l).sl l.length 1000 (lastOf l x (cycF l).at_), if x.f0 = 33 then freeFrom (cycF l).at_ (cycF l).sl l.length 1000 (lastOf l x (cycF l).at_) + 1 else freeFrom (cycF l).at_ (cycF l).sl l.length 1000 (lastOf l x (cycF l).at_) + 1 + 2) := by unfold endC; rw [if_neg e0]
    have hlb := lastOf_bd x l (cycF l).at_ (fun i hi => (hci i hi).1); have hfb := freeFrom_ge (cycF l).at_ (cycF l).sl l.length 1000 (lastOf l x (cycF l).at_); have hff := freeFrom_free (cycF l).at_ (cycF l).sl l.length 799 (fun i hi => (hci i hi).1.2) 1000 (lastOf l x (cycF l).at_) (by omega); rw [he]; refine W.sO tb_ok ?_; generalize hT : freeFrom (cycF l).at_ (cycF l).sl l.length 1000 (lastOf l x (cycF l).at_) = t at hfb hff ⊢; refine W.seq ?_; refine W.block (W.loop (fun p : Nat × Int => ⟨[(7, .one (.int .i64 p.2)), (1, .one (.ptr 0 0)), (3, .one (.row 3 kI (cycF l).at_)), (4, .one (.row 3 kI (cycF l).sl))], [.box 41 (kBlk.flat ((ls, l.map f24, f24 x, ()) : kBlk.T))], 95⟩) (fun p => p.1) (fun p => freeFrom (cycF l).at_ (cycF l).sl l.length p.1 p.2 = t ∧ lastOf l x (cycF l).at_ ≤ p.2 ∧ p.2 ≤ t) (1000, lastOf l x (cycF l).at_) ⟨hT, Int.le_refl _, hfb.1⟩ (Le.to [0] hcx rfl ⟨rfl, rfl, rfl, rfl, rfl, rfl⟩) fun p hp => ?_); obtain ⟨f, c⟩ := p; obtain ⟨hf, hc0, hc1⟩ := hp; simp only at hf hc0 hc1; refine W.seq ?_; have q0_ := h42 c; refine W.sO tb_ok ?_; refine W.if_ _ rfl (fun e => W.skip ?_) (fun e => W.exit ?_)
    · cases f with
      | zero => rw [freeFrom] at hf; subst hf; rw [hff] at e; cases e
      | succ f =>
        rw [freeFrom, if_pos e] at hf; have hge := freeFrom_ge (cycF l).at_ (cycF l).sl l.length f (c + 1); refine W.block ?_; refine W.rO tb_ok ?_; refine ⟨(f, c + 1), ⟨hf, by show _ ≤ c + 1; omega, by show c + 1 ≤ t; omega⟩, Le.to [0] hcx rfl ⟨?_, rfl, rfl, rfl, rfl, rfl⟩, Nat.lt_succ_self f⟩; show S.ren _ (S.one (.int .i64 (IntKind.i64.wrap (c + 1)))) = _; rw [IntWalk.i64_in _ (by omega)]; rfl
    have hct : c = t := by
      cases f with
      | zero => rw [freeFrom] at hf; exact hf
      | succ f => rw [freeFrom, if_neg (by rw [e]; exact Bool.false_ne_true)] at hf; exact hf
    subst hct; refine W.sO tb_ok ?_; refine W.sO tb_ok ?_; refine W.if_ _ rfl (fun e2 => ?_) (fun e2 => W.skip ?_)
    · have e3 : ¬ x.f0 = 33 := fun h => by have e : (!(x.f0 == 33)) = true := e2; rw [h] at e; cases e
      rw [if_neg e3]; refine W.rO tb_ok ?_; refine Le.to [0] hcx rfl ⟨?_, rfl, rfl, rfl, rfl, rfl, rfl⟩; show S.ren _ (S.one (.int .i64 (IntKind.i64.wrap (IntKind.i64.wrap (c + 1) + 2)))) = _; rw [IntWalk.i64_in (c + 1) (by omega), IntWalk.i64_in _ (by omega)]; rfl
    · have e3 : x.f0 = 33 := by have e : (!(x.f0 == 33)) = false := e2; rw [Bool.not_eq_false'] at e; exact eq_of_beq e
      rw [if_pos e3]; refine Le.to [0] hcx rfl ⟨?_, rfl, rfl, rfl, rfl, rfl, rfl⟩; show S.ren _ (S.one (.int .i64 (IntKind.i64.wrap (c + 1)))) = _; rw [IntWalk.i64_in _ (by omega)]; rfl
  have hb0 : rowB 224 (endC l x).2.toNat := by show _ * _ ≤ _; omega
  have hz0 : 0 ≤ (endC l x).2 := hbd.1; refine W.sO tb_ok ?_; refine W.seq ?_; refine W.sO tb_ok ?_; refine W.block (W.loop (fun i : Nat => ⟨[(8, .one (.own 1)), (9, .one (.int .i64 i)), (7, .one (.int .i64 (endC l x).1)), (1, .one (.ptr 0 0)), (3, .one (.row 3 kI (cycF l).at_)), (4, .one (.row 3 kI (cycF l).sl))], [.box 41 (kBlk.flat ((ls, l.map f24, f24 x, ()) : kBlk.T)), .row 62 kBun ((bunUp l (cycF l).at_ (cycF l).sl (List.replicate (endC l x).2.toNat z62) i).map f62)], 95⟩) (fun i => l.length - i) (fun i => i ≤ l.length) 0 (Nat.zero_le _) (Le.to [0, 1] hcx rfl ⟨rfl, rfl, rfl, rfl, rfl, rfl, ?_, rfl⟩) fun i hi => ?_)
  · rw [bunUp, List.map_replicate]; rfl
  have hbl : (bunUp l (cycF l).at_ (cycF l).sl (List.replicate (endC l x).2.toNat z62) i).length = (endC l x).2.toNat := by rw [bunUp_len, List.length_replicate]
  have hbl2 : ((bunUp l (cycF l).at_ (cycF l).sl (List.replicate (endC l x).2.toNat z62) i).map f62).length = (endC l x).2.toNat := by rw [List.length_map, hbl]
  refine W.seq ?_; refine W.sO tb_ok ?_; refine W.if_ _ rfl (fun e => W.skip ?_) (fun e => W.exit ?_)
  · have ei : i < l.length := by have := of_decide_eq_true e; omega
    have hea : i < (cycF l).at_.length := by rw [hcl.1]; exact ei
    have hes : i < (cycF l).sl.length := by rw [hcl.2]; exact ei
    have hy := at24 l i ei; obtain ⟨⟨ha0, ha1⟩, hs0, hs1⟩ := hci i ei; have ha2 := hbd.2.2.2.2 i ei; have hnx : bunUp l (cycF l).at_ (cycF l).sl (List.replicate (endC l x).2.toNat z62) (i + 1) = _ := bunUp.eq_2 _ _ _ _ _; have haN : ∃ m : Nat, rd (cycF l).at_ (i : Int) = m ∧ m < (bunUp l (cycF l).at_ (cycF l).sl (List.replicate (endC l x).2.toNat z62) i).length := ⟨(rd (cycF l).at_ (i : Int)).toNat, by omega, by omega⟩
    obtain ⟨m, hm, hmb⟩ := haN; have hga : (cycF l).at_.getD i (K.zero kI) = (m : Int) := hm; rw [hm, Int.toNat_natCast] at hnx; have h62 := at62 _ m hmb; have hmb2 : m < ((bunUp l (cycF l).at_ (cycF l).sl (List.replicate (endC l x).2.toNat z62) i).map f62).length := by omega
    have hsl : rd (cycF l).sl (i : Int) = 0 ∨ rd (cycF l).sl (i : Int) = 1 ∨ rd (cycF l).sl (i : Int) = 2 ∨ rd (cycF l).sl (i : Int) = 3 := by omega
    refine W.seq (W.block ?_); rcases hsl with hs | hs | hs | hs
    · have hgs : (cycF l).sl.getD i (K.zero kI) = 0 := hs; refine W.regA [16, 1] tb_ok rfl rfl _ (by (repeat' first | dsimp | simp only [castRow_self, hga, hgs] | apply And.intro) <;> first | rfl | trivial | assumption | omega | (intros; and_intros <;> first | rfl | trivial | assumption | omega)) ?_; refine W.rO tb_ok ?_; refine ⟨i + 1, ei, Le.to [0, 1] hcx rfl ⟨rfl, ?_, rfl, rfl, rfl, rfl, ?_, rfl⟩, by omega⟩
      · show S.ren _ (S.one (.int .i64 (IntKind.i64.wrap (↑i + 1)))) = _; rw [IntWalk.i64_in _ (by omega)]; rfl
      · rw [hnx, hs, List.map_set, hy, h62]; rfl
    · have hgs : (cycF l).sl.getD i (K.zero kI) = 1 := hs; refine W.regA [16, 1] tb_ok rfl rfl _ (by (repeat' first | dsimp | simp only [castRow_self, hga, hgs] | apply And.intro) <;> first | rfl | trivial | assumption | omega | (intros; and_intros <;> first | rfl | trivial | assumption | omega)) ?_; refine W.rO tb_ok ?_; refine ⟨i + 1, ei, Le.to [0, 1] hcx rfl ⟨rfl, ?_, rfl, rfl, rfl, rfl, ?_, rfl⟩, by omega⟩
      · show S.ren _ (S.one (.int .i64 (IntKind.i64.wrap (↑i + 1)))) = _; rw [IntWalk.i64_in _ (by omega)]; rfl
      · rw [hnx, hs, List.map_set, hy, h62]; rfl
    · have hgs : (cycF l).sl.getD i (K.zero kI) = 2 := hs; refine W.regA [16, 1] tb_ok rfl rfl _ (by (repeat' first | dsimp | simp only [castRow_self, hga, hgs] | apply And.intro) <;> first | rfl | trivial | assumption | omega | (intros; and_intros <;> first | rfl | trivial | assumption | omega)) ?_; refine W.rO tb_ok ?_; refine ⟨i + 1, ei, Le.to [0, 1] hcx rfl ⟨rfl, ?_, rfl, rfl, rfl, rfl, ?_, rfl⟩, by omega⟩
      · show S.ren _ (S.one (.int .i64 (IntKind.i64.wrap (↑i + 1)))) = _; rw [IntWalk.i64_in _ (by omega)]; rfl
      · rw [hnx, hs, List.map_set, hy, h62]; rfl
    · have hgs : (cycF l).sl.getD i (K.zero kI) = 3 := hs; refine W.regA [16, 1] tb_ok rfl rfl _ (by (repeat' first | dsimp | simp only [castRow_self, hga, hgs] | apply And.intro) <;> first | rfl | trivial | assumption | omega | (intros; and_intros <;> first | rfl | trivial | assumption | omega)) ?_; refine W.rO tb_ok ?_; refine ⟨i + 1, ei, Le.to [0, 1] hcx rfl ⟨rfl, ?_, rfl, rfl, rfl, rfl, ?_, rfl⟩, by omega⟩
      · show S.ren _ (S.one (.int .i64 (IntKind.i64.wrap (↑i + 1)))) = _; rw [IntWalk.i64_in _ (by omega)]; rfl
      · rw [hnx, hs, List.map_set, hy, h62]; rfl
  have hi2 : i = l.length := by have := of_decide_eq_false e; omega
  subst hi2; refine W.seq ?_; refine W.sO tb_ok ?_; refine W.ifJ ⟨[(8, .one (.own 0))], [.row 62 kBun ((bunF l x).map f62)], 95⟩ _ rfl (fun e => ?_) (fun e => W.skip ?_) ?_
  · have e0 := of_decide_eq_true e; have hbF : bunF l x = (bunUp l (cycF l).at_ (cycF l).sl (List.replicate (endC l x).2.toNat z62) l.length).set (endC l x).1.toNat (put81 (J62 (bunUp l (cycF l).at_ (cycF l).sl (List.replicate (endC l x).2.toNat z62) l.length) (endC l x).1) 0 x) := by unfold bunF; rw [if_pos (by omega)]; rfl
    obtain ⟨m, hm, hmb⟩ : ∃ m : Nat, (endC l x).1 = m ∧ m < (bunUp l (cycF l).at_ (cycF l).sl (List.replicate (endC l x).2.toNat z62) l.length).length := ⟨(endC l x).1.toNat, by omega, by have := hbd.2.2.1; omega⟩
    have hmb2 : m < ((bunUp l (cycF l).at_ (cycF l).sl (List.replicate (endC l x).2.toNat z62) l.length).map f62).length := by omega
    have h62 := at62 _ m hmb; rw [hm, Int.toNat_natCast] at hbF; rw [hm]; refine W.bO [6, 1] tb_ok ?_; refine Le.to [1] hcx rfl ⟨rfl, ?_, rfl⟩; rw [hbF, List.map_set, h62]; rfl
  · have e0 := of_decide_eq_false e; have hbF : bunF l x = bunUp l (cycF l).at_ (cycF l).sl (List.replicate (endC l x).2.toNat z62) l.length := by unfold bunF; rw [if_neg (by omega)]; rfl
    rw [hbF]; exact Le.to [1] hcx rfl ⟨rfl, rfl, rfl⟩
  refine W.sO tb_ok ?_; exact W.ret ⟨trivial, [0], rfl, rfl, rfl⟩
end Go.Den
end
section
-- the texts that this claim needs, out of this session's and its print's (wip/shrink.py)
namespace Go.Den
open Go Go.RowKit Go.Proofs Go.Proofs.YtibfkkjkahpobaaGreatW.PrintWords Go.Proofs.YtibfkkjkahpobaaGreat.PDag
theorem fg24 (y : kIns.T) : f24 (g24 y) = y := rfl
theorem fg41 (b : kBlk.T) : f41 (g41 b) = b := by
  show (b.1, (b.2.1.map g24).map f24, f24 (g24 b.2.2.1), ()) = b; rw [List.map_map, show (f24 ∘ g24) = id from funext fg24, List.map_id]; rfl
def sides : Sides where
  e b := if mayBlkL (g41 b).f0 (g41 b).f1 (g41 b).f2 = true then 0 else 1
  x b := (xOf (g41 b)).map f62
  f b := if mayL (g41 b).f1 = true then 0 else 1
  at_ b := if mayL (g41 b).f1 = true then (cycF (g41 b).f1).at_ else []
  sl b := if mayL (g41 b).f1 = true then (cycF (g41 b).f1).sl else []
  B b := mayBlkL (g41 b).f0 (g41 b).f1 (g41 b).f2
  S b := mayL (g41 b).f1
  want _ := []
  cyc _ := []
  pl _ := []
  mute _ := []
theorem sides_ok (b : kBlk.T) (h0 : (g41 b).f0.length ≤ 1000000000) (h1 : (g41 b).f1.length ≤ 1000000000) (hx : (xOf (g41 b)).length ≤ 1000000000) : sides.Ok b := by
  have hb := fg41 b; have hr : b.2.1 = (g41 b).f1.map f24 := by rw [← congrArg (fun b : kBlk.T => b.2.1) hb]; rfl
  refine ⟨?_, ?_, ?_, ?_, fun hB => ?_, ?_, fun hS => ?_, o15 _ hx, rfl, fun hB => ?_, rfl, fun hS => ?_, fun hS => ?_⟩
  · exact o7 b (by rw [← hb]; exact h0) (by rw [hr, List.length_map]; exact h1)
  · have := o8 (g41 b) h0 h1; rw [hb] at this; exact this
  · have := o9 (g41 b).f1 h1; rw [← hr] at this; exact this
  · have := o10 (g41 b) h1; rw [hb] at this; exact this
  · have hB : mayBlkL (g41 b).f0 (g41 b).f1 (g41 b).f2 = true := hB; have := o11 (g41 b) (mayBlkL_some hB); rw [hb] at this; show CallStep _ _ _ _ (.one (.row 62 kBun ((xOf (g41 b)).map f62))) _; rw [show xOf (g41 b) = bunF (g41 b).f1 (g41 b).f2 from if_pos hB]; exact this
  · have := o12 (g41 b).f1 h1; rw [← hr] at this; exact this
  · have hS : mayL (g41 b).f1 = true := hS; have := o13 (g41 b).f1 hS; rw [← hr] at this; show CallStep _ _ _ _ (.tup [(false, [.row 3 kI (if mayL (g41 b).f1 = true then _ else _)]), (false, [.row 3 kI (if mayL (g41 b).f1 = true then _ else _)])]) _; rw [if_pos hS, if_pos hS]; exact this
  · have hB : mayBlkL (g41 b).f0 (g41 b).f1 (g41 b).f2 = false := hB; show (xOf (g41 b)).map f62 = []; rw [show xOf (g41 b) = [] from if_neg (by rw [hB]; exact Bool.false_ne_true)]; rfl
  · have hS : mayL (g41 b).f1 = false := hS; exact if_neg (by rw [hS]; exact Bool.false_ne_true)
  · have hS : mayL (g41 b).f1 = false := hS; exact if_neg (by rw [hS]; exact Bool.false_ne_true)
end Go.Den
end
section
-- the texts that this claim needs, out of this session's and its print's (wip/shrink.py)
namespace Go.Den
open Go Go.RowKit Go.Proofs Go.Proofs.YtibfkkjkahpobaaGreatW.PrintWords Go.Proofs.YtibfkkjkahpobaaGreat.PDag
theorem xOf_len (b : S41) : (xOf b).length ≤ 1000000000 := by
  unfold xOf; split
  · rename_i h
    have hml := (mayBlk_may (mayBlkL_some h)).1; have hbd := endC_bd (mayL_ok hml) (mayL_parts hml).1 b.f2
    have hl : (bunF b.f1 b.f2).length = (endC b.f1 b.f2).2.toNat := by
      unfold bunF; split
      · rw [List.length_set, bunAll_len]
      · exact bunAll_len _ _
    rw [hl]; have := hbd.2.1; omega
  · exact Nat.zero_le _
theorem of_den {lI : List S24} {x : S24} {lN : List Int} {lS : List ByteArray} {lU : List S122} {lB : List S41} {lC : List S62} {k : Nat} {r : Bool} (hB : lB.length ≤ 1000000000000000) (hb : ∀ b ∈ lB, b.f0.length ≤ 1000000000000000 ∧ b.f1.length ≤ 1000000000000000)
    (hf : w15_Heavy.f k lI x.f0 x.f1 x.f2 x.f3 x.f4 x.f5 lN lS lU lB lC = some r) : CallStep Tryz.prog 3 [.agg (askC lI x lN lS lU lB lC)] [] (.one (.bool true)) [] := by
  have hl : r = false → lB.length ≤ 400 ∧ ∀ b ∈ lB, b.f0.length ≤ 400 ∧ b.f1.length ≤ 400 := fun hr => light15 hB hb (by rw [hf, hr])
  cases r with
  | true => exact schedOf_den (lI.map f24) x.f0 x.f1 x.f2 x.f3 x.f4 x.f5 lN lS (lU.map f122) (lB.map f41) (lC.map f62) _ rfl true [] sides (fun b hbm => by cases hbm) (o5 hf) (fun h => by cases h) o14 o16 o17 o18 o19
  | false =>
    obtain ⟨h4, h5⟩ := hl rfl; refine schedOf_den (lI.map f24) x.f0 x.f1 x.f2 x.f3 x.f4 x.f5 lN lS (lU.map f122) (lB.map f41) (lC.map f62) _ rfl false (blocksF (lI.map f24) (fun a => mayL [g24 a]) (f24 x) (lB.map f41)) sides (fun b hbm => ?_) (o5 hf) (fun _ => ?_) o14 o16 o17 o18 o19
    · rcases List.mem_append.1 hbm with hbm | hbm
      · obtain ⟨c, hc, rfl⟩ := List.mem_map.1 (List.mem_of_mem_take hbm); have := h5 c hc; have hg : g41 (f41 c) = c := br41.gf c; exact sides_ok _ (by rw [hg]; omega) (by rw [hg]; omega) (xOf_len _)
      · obtain ⟨e, he, rfl⟩ := List.mem_map.1 hbm; have := insUp_len (lI.map f24) (fun a => mayL [g24 a]) (lI.map f24).length; exact sides_ok _ (Nat.zero_le _) (by show ((insUp (lI.map f24) (fun a => mayL [g24 a]) (lI.map f24).length).map g24).length ≤ 1000000000; rw [List.length_map]; omega) (xOf_len _)
    · exact o6 (lI.map f24) x.f0 x.f1 x.f2 x.f3 x.f4 x.f5 lN lS (lU.map f122) (lB.map f41) (lC.map f62) (fun a => mayL [g24 a]) (fun a => o12 [g24 a] (by show 1 ≤ _; omega)) (by rw [List.length_map]; omega) (fun b hbm => by
        obtain ⟨c, hc, rfl⟩ := List.mem_map.1 hbm; have := h5 c hc
        exact ⟨by show c.f0.length ≤ _; omega, by show (c.f1.map f24).length ≤ _; rw [List.length_map]; omega⟩)
theorem schedOf_walk : S15.LawWalk 3 := by
  intro A0 c0 lI x A1 c1 lN A2 c2 lS A3 c3 lU A4 c4 lB A5 c5 lC w h0 b0 h1 b1 h2 b2 h3 b3 h4 b4 h5 b5 hin; obtain ⟨r, hr⟩ := heavy15_tot lI x lN lS lU lB lC hin; obtain ⟨k, hk⟩ := hr.rounds; have hB1 := hin.b.1
  have key := of_den (lB := lB) (by omega) (fun b hb => by
    have hq := hin.b.2 b hb; have q1 := hq.1.1; have q2 := hq.2.1.1
    omega) hk
  have hU : ∀ a, a < w.heap.size → ¬ (fun _ : Nat => False) a := fun _ _ h => h; refine Calls.mono (key.calls (fun _ => False) (fun _ => undef) w _ (HR.empty _ _ _) (All2.cons ⟨_, rfl, ?_⟩ All2.nil)) ?_
  · exact All2.cons (br24.ofRow hU b0 h0) (All2.cons rfl (All2.cons rfl (All2.cons rfl (All2.cons rfl (All2.cons rfl (All2.cons rfl (All2.cons ((brInts .i64 3).ks hU ⟨A1, c1, rfl, b1, h1⟩) (All2.cons (brStrs.ks hU ⟨A2, c2, rfl, b2, h2⟩) (All2.cons (br122.ofRow hU b3 h3) (All2.cons (br41.ofRow hU b4 h4) (All2.cons (br62.ofRow hU b5 h5) All2.nil)))))))))))
  · rintro e w' ⟨v, U1, ρ1, rfl, g, hs⟩; exact ⟨by rw [show v = .bool true from hs], g.agree.below fun b _ ⟨i, hi⟩ => by simp [place] at hi⟩
end Go.Den
end
