-- the texts that this claim needs, out of this session's and its print's (wip/shrink.py)
import Derived.RangeFuncNested
import Derived.RangeFuncBound
import Derived.RangeFuncCalls
import Derived.RangeFuncLeaves
import Derived.Shelf.Abstract
import Derived.WalkKit
import Derived.OwnWalkIn
import Derived.TacticsInMore
import Derived.LoopNIn
import Derived.LoopIn
import Derived.Test.YtibfkkjkahpobaaPDagx0L
set_option linter.unusedSimpArgs false
set_option linter.unusedVariables false
namespace Go.Proofs.Ytibfkkjkahpobaa.PDag
open Go.RowKit Go.Shelf Go.Proofs.YtibfkkjkahpobaaW.PrintWords Go.Proofs.YtibfkkjkahpobaaW.PrintLast
attribute [local go_sem] Oper.semAt_some
def comes (es : List S51) (j : Nat) : S51 := q51 es ((es.length : Int) - 1 - j)
def upto (n k : Nat) : List (Fin n) := (List.finRange n).take k
theorem upto_succ (n k : Nat) (h : k < n) : upto n (k + 1) = upto n k ++ [⟨k, h⟩] := by
  unfold upto
  rw [List.take_succ_eq_append_getElem (by simpa using h)]
  simp
theorem upto_length (n k : Nat) (h : k ≤ n) : (upto n k).length = k := by simp [upto, h]
theorem upto_all (es : List S51) : (upto es.length es.length).map (fun j : Fin es.length => comes es j.1) = es.reverse := by
  apply List.ext_getElem
  · simp [upto]
  · intro i h1 h2
    have h3 : i < es.length := by simpa using h2
    simp only [upto, List.getElem_map, List.getElem_take, List.getElem_finRange, comes, q51, List.getElem_reverse]
    simp only [Fin.val_cast]
    rw [show ((es.length : Int) - 1 - i).toNat = es.length - 1 - i by omega, List.getD_eq_getElem?_getD, List.getElem?_eq_getElem (by omega)]
    rfl
def KpB (n₀ Bs : Nat) (W W' : World) : Prop := Below n₀ W W' ∧ W'.heap[Bs]? = W.heap[Bs]?
theorem KpB.t {n₀ Bs : Nat} {A B C : World} (h : KpB n₀ Bs A B) (k : KpB n₀ Bs B C) : KpB n₀ Bs A C := ⟨h.1.trans k.1, k.2.trans h.2⟩
theorem KpB.b {n₀ Bs : Nat} {w : World} (hn : n₀ ≤ w.heap.size) (hb : Bs < w.heap.size) (W : World) (l : Nat) (o o' : Obj) (hl : w.heap.size ≤ l) (h : W.heap[l]? = some o) (h1 : o.isCells = false) (h2 : o.isWalk = false) : KpB n₀ Bs W (W.putObj l o') :=
  ⟨belowK_b hn W l o o' hl h h1 h2, World.putObj_heap_other (by omega)⟩
set_option maxRecDepth 100000 in
set_option maxHeartbeats 2000000 in
theorem back1_in (F : Fence) (n : Nat) (h116 : F.fn 116) (hro : F.round = none) (hn : 1 ≤ n) (l Bs : Nat) (A : Option Addr) (c : Nat) (es : List S51) (w0 : World) (hC : Kd.C k51 w0 A es.length es) (J Jx : List (Fin es.length) → World → Prop)
    (hY : ∀ pre (x : Fin es.length) W, J pre W → pre.length < es.length → YieldAt F (n - 1) Try.prog l #[.int .i64 ((es.length : Int) - 1 - (x.1 : Int)), .agg #[.int .i64 (comes es x.1).f0, .int .i64 (comes es x.1).f1, .int .i64 (comes es x.1).f2]] W fun e W' =>
      (e = .returned (.bool true) ∧ J (pre ++ [x]) W' ∧ KpB w0.heap.size Bs W W') ∨ (e = .returned (.bool false) ∧ Jx (pre ++ [x]) W'))
    (W : World) (hW : Below w0.heap.size w0 W) (hBs : W.heap[Bs]? = some (.cells #[.slice A es.length c] 31 (0, 0))) (h0 : J [] W) :
    CallsIn F n Try.prog 116 #[.func (.yield l) #[] #[], .pointer (some ⟨Bs, 0, none⟩)] W fun e W' => (∃ v, e = .returned v) ∧
      ((∃ ys, ys = upto es.length es.length ∧ J ys W') ∨ (∃ pre, (∃ k, k ≤ es.length ∧ pre = upto es.length k) ∧ Jx pre W')) := by
  have hu51 := Try.underlying51
  have hmax := Kd.C_max hC
  refine callsIn_of_wp Try.func116 rfl h116 ?_ hro
  simp only [Try.ntmps116, List.size_toArray, List.length_cons, List.length_nil, Nat.reduceAdd, Nat.reduceSub, Array.replicate_succ, Array.replicate_zero, List.push_toArray, List.append_toArray, List.nil_append, List.cons_append]
  have hcb : W.cell? ⟨Bs, 0, none⟩ = some (.slice A es.length c) := (bC_ hBs 0).trans rfl
  have hw1 : wrap64 ((es.length : Int) - 1) = (es.length : Int) - 1 := by unfold wrap64; omega
  gi_wp2
  gi_loopw [3] (fun i wr => ∃ k : Nat, k ≤ es.length ∧ i = .int .i64 ((es.length : Int) - 1 - k) ∧ J (upto es.length k) wr ∧ KpB w0.heap.size Bs W wr)
    (fun i _ => (intOf i + 1).toNat)
  case atStart => exact ⟨0, Nat.zero_le _, by simp, h0, Below.refl _ _, rfl⟩
  case round =>
    obtain ⟨k, hk, rfl, hJs, hnx⟩ := hrel
    have hbk := hnx.2.trans hBs
    have hcb' : wr.cell? ⟨Bs, 0, none⟩ = some (.slice A es.length c) := (bC_ hbk 0).trans rfl
    by_cases hlt : k < es.length
    · obtain ⟨fn, tmps, assign, body, hy, hR⟩ := hY _ ⟨k, hlt⟩ wr hJs (by rw [upto_length _ _ hk]; exact hlt)
      have p0 : (0 : Int) ≤ (es.length : Int) - 1 - k := by omega
      have q0 : (es.length : Int) - 1 - k < (es.length : Int) := by omega
      obtain ⟨ad, e1, hx0, hx1, hx2⟩ := at_T51 hC _ p0 q0
      subst e1
      replace hx0 := ((hW.trans hnx.1).cell (World.block_lt_of_cell? w0 _ hx0)).trans hx0
      replace hx1 := ((hW.trans hnx.1).cell (World.block_lt_of_cell? w0 _ hx1)).trans hx1
      replace hx2 := ((hW.trans hnx.1).cell (World.block_lt_of_cell? w0 _ hx2)).trans hx2
      dsimp only [comes] at hy
      rw [show ((es.length : Int) - 1 - k).toNat = es.length - 1 - k by omega] at hx0 hx1 hx2
      have hw2 : wrap64 ((es.length : Int) - 1 - k - 1) = (es.length : Int) - 1 - k - 1 := by unfold wrap64; omega
      replace p0 := eq_true p0
      replace q0 := eq_true q0
      gi_wp2
      refine hR.mono ?_
      rintro e W3 (⟨rfl, hJ3, hk3⟩ | ⟨rfl, hJx3⟩)
      · gi_wp2
        go_roundw
        case rel => exact ⟨k + 1, by omega, by (try rw [hw2]); congr 1; push_cast; omega, by rw [upto_succ _ _ hlt]; exact hJ3, hnx.t hk3⟩
        case measure => simp [intOf]; omega
      · gi_wp2
        refine bodyPost_ret (results_none rfl _ _ _) rfl ?_
        exact ⟨⟨_, rfl⟩, .inr ⟨_, ⟨k + 1, by omega, (upto_succ _ _ hlt).symm⟩, hJx3⟩⟩
    · obtain rfl : k = es.length := by omega
      have hng : ¬ (0 : Int) ≤ (es.length : Int) - 1 - es.length := by omega
      gi_wp2
      go_end0
      first | exact ⟨⟨_, rfl⟩, .inl ⟨_, rfl, hJs⟩⟩ | exact ⟨⟨_, rfl⟩, .inl hJs⟩
set_option maxHeartbeats 1000000 in
theorem back_in (F : Fence) (n : Nat) (h93 : F.fn 93) (hro : F.round = none) (a : Option Addr) (len cap : Nat) (w : World) :
    CallsIn F n Try.prog 93 #[.slice a len cap] w fun e w' => e = .returned (.func (.func 116) #[] #[.pointer (some ⟨w.heap.size, 0, none⟩)]) ∧ w' = w.alloc (.cells #[.slice a len cap] 31) := by
  refine callsIn_of_wp Try.func93 rfl h93 ?_ hro
  simp only [Try.ntmps93, List.size_toArray, List.length_cons, List.length_nil, Nat.reduceAdd, Nat.reduceSub, Array.replicate_succ, Array.replicate_zero, List.push_toArray, List.append_toArray, List.nil_append, List.cons_append]
  gi_wp2
  go_ret
  exact ⟨rfl, rfl⟩
theorem back_stops (F : Fence) (n : Nat) (h116 : F.fn 116) (hro : F.round = none) (hn : 1 ≤ n) (Bs : Nat) (A : Option Addr) (c : Nat) (es : List S51) (w0 w : World) (hC : Kd.C k51 w0 A es.length es) (hw : Below w0.heap.size w0 w) (hBs : w.heap[Bs]? = some (.cells #[.slice A es.length c] 31 (0, 0))) :
    SeqStopsK F n Try.prog 116 #[.pointer (some ⟨Bs, 0, none⟩)] (fun x : Fin es.length => (#[.int .i64 ((es.length : Int) - 1 - (x.1 : Int)), .agg #[.int .i64 (comes es x.1).f0, .int .i64 (comes es x.1).f1, .int .i64 (comes es x.1).f2]] : Array Value)) (KpB w0.heap.size Bs) (fun ys => ys = upto es.length es.length)
      (fun pre => ∃ k, k ≤ es.length ∧ pre = upto es.length k) es.length w := fun l J Jx W hW _ _ hY h0 =>
  back1_in F n h116 hro hn l Bs A c es w0 hC J Jx hY W (hw.trans (hW.mono hw.size)) ((hW.block Bs (blk_lt hBs)).trans hBs) h0
section
variable {P : Program} {ops : Array Oper} {Q : Exit → Act → World → Prop} {md : Region.Mode} {S : World → Prop} {ds : List Nat}
def noDefer (ops : Array Oper) : Bool := ops.toList.all fun o => match o.op with | .defer _ => false | .call c => (match c.callee with | .builtin _ => true | _ => false) | _ => true
theorem noDefer_at (h : noDefer ops = true) {i : Nat} {o : Oper} (hi : ops[i]? = some o) : ∀ c, o.op ≠ .defer c := fun c e => by
  have hm : o ∈ ops.toList := by
    rw [← Array.getElem?_toList] at hi
    exact List.mem_of_getElem? hi
  have := List.all_eq_true.1 h o hm
  rw [e] at this
  simp at this
theorem opIn_of_op {l n : Nat} (hnd : noDefer ops = true) (hL : ¬ LetsOut Q) {i : Nat} {K K' : Act → World → Prop} {a : Act} {w : World}
    (hk : ∀ a w, K a w → K' a w) (h : wpOp P ops Q i K a w) : wpOpIn (Fence.wide.inRound l) n P ops Q i K' a w := by
  unfold wpOp at h
  unfold wpOpIn
  cases e : ops[i]? with
  | none => simp only [e] at h; exact hk _ _ h
  | some o =>
    simp only [e] at h
    show if Region.wanted o (yielded ops a.tmps) = true then Oper.wpIn (Fence.wide.inRound l) n P o a w K' Q else _
    by_cases hw : Region.wanted o (yielded ops a.tmps) = true
    · rw [if_pos hw] at h ⊢
      rcases h with h | h
      · refine ⟨fun _ _ => trivial, ?_⟩
        have e2 : o.semAt (Fence.wide.inRound l).round a.eval = execOp a.eval o := Oper.semAt_some l a.eval o (noDefer_at hnd e)
        rw [e2]
        unfold Oper.wp at h
        generalize (execOp a.eval o).run P w = r at h ⊢
        cases r with
        | ok x w' =>
          cases x <;> simp only [Oper.upon] at h
          case value v => exact hk _ _ h
          case skip => exact hk _ _ h
          case defer d => exact hk _ _ h
          case enter f args =>
            refine ⟨fun h => (by cases h), ?_⟩
            refine CallsIn.inRound l (CallsIn.mono (callsIn_wide.2 h) ?_)
            intro e w'' he
            cases e with
            | returned u => exact hk _ _ he
            | panicked c => exact he
            | outgrown => exact he
          case row row args =>
            refine ⟨fun h => (by cases h), ?_⟩
            intro c cs _
            obtain ⟨v, w2, r, s⟩ := h c cs
            exact ⟨v, w2, hk _ _ r, stepsIn_wide.2 s⟩
        | halt x w' =>
          cases x <;> simp only [Oper.upon] at h
          case panic u => exact h
      · exact absurd h.2 hL
    · rw [if_neg hw] at h ⊢
      exact ⟨fun _ _ => trivial, hk _ _ h⟩
theorem anyIn_of_any {l n : Nat} (hnd : noDefer ops = true) (hL : ¬ LetsOut Q) : ∀ (fuel : Nat) (listed : Array Bool) (a : Act) (w : World), wpAny P md ops Q fuel listed a w → wpAnyIn (Fence.wide.inRound l) n P md ops Q fuel listed a w
  | 0, _, _, _, h => h
  | fuel + 1, listed, a, w, h => ⟨h.1, fun i hi => opIn_of_op hnd hL (fun a w h => anyIn_of_any hnd hL fuel _ a w h) (h.2 i hi)⟩
def OnlyNormal (Q : Exit → Act → World → Prop) : Exit → Act → World → Prop := fun e a w => match e with | .normal => Q .normal a w | _ => False
theorem wp_normal_only {c : Code} {a : Act} {w : World} (h : c.wp P (OnlyNormal Q) a w) : c.wp P Q a w :=
  Code.wp_mono (fun e a w hq => by cases e <;> first | exact hq | exact hq.elim) h
theorem startIn_ {id k n l : Nat} {a : Act} {w : World} (L : Array Bool) (hm : P.follows .mixedOrders = true) (hnd : noDefer ops = true) (hn : ops.size = n) (hl : Array.replicate n false = L) (hS : S w.drew)
    (h : S w.drew → wpAnyLast P .any ops (OnlyNormal Q) S ds n L a w.drew) : (Code.region id ops true).wpIn (Fence.wide.inRound l) k P Q a w := by
  subst hn
  subst hl
  refine Code.wpIn_mono (Q := OnlyNormal Q) (fun e a w hq => by cases e <;> first | exact hq | exact hq.elim) ?_
  exact wpIn_region_any hm (anyIn_of_any hnd (fun ⟨a, w, h⟩ => h) _ _ _ _ (wpAny_of_last _ _ _ _ (h hS)))
end
end Go.Proofs.Ytibfkkjkahpobaa.PDag
