import Derived.Test.YtibfkkjkahpobaaGreatFt30
import Derived.Test.YtibfkkjkahpobaaGreatFt31
import Derived.Test.YtibfkkjkahpobaaGreatFt23
import Derived.Test.YtibfkkjkahpobaaGreatFt24
set_option linter.unusedVariables false
set_option linter.unusedSimpArgs false
set_option maxHeartbeats 8000000
set_option maxRecDepth 100000
section
namespace Go.Proofs.YtibfkkjkahpobaaGreat.PDag
open Go.RowKit Go.Proofs.YtibfkkjkahpobaaGreatW.PrintWords Go.Proofs.YtibfkkjkahpobaaGreatW.PrintLast Go.Proofs.YtibfkkjkahpobaaGreatW.PrintMore
attribute [local go_sem] Oper.semAt_some
def sched_OfZ.f (k : Nat) (lb : List ByteArray) (l : List S24) (a2 a3 a4 a5 a6 : Int) (a7 : ByteArray) : Option (List S62 × Int) :=
  if lb.isEmpty = true ∧ l.length ≤ 1000000000 then some (if mayBlk l ⟨a2, a3, a4, a5, a6, a7⟩ = true then (bunF l ⟨a2, a3, a4, a5, a6, a7⟩, 0) else ([], 1)) else none
theorem mayBlk_partsZ {l : List S24} {x : S24} (h : mayBlk l x = true) : okA l ∧ l.length ≤ 200 ∧ 0 ≤ x.f0 ∧ x.f0 ≤ 33 := by
  unfold mayBlk at h; rw [Bool.and_eq_true] at h; have ho : okA l := fun y hy => plain_ok (List.all_eq_true.1 h.1 y hy); refine ⟨ho, ?_⟩; split at h
  · rename_i hz
    have h2 := of_decide_eq_true h.2; unfold zeroI at hz; simp only [Bool.and_eq_true, beq_iff_eq] at hz; exact ⟨h2, by omega⟩
  · have h2 := h.2; simp only [Bool.and_eq_true, decide_eq_true_eq] at h2; have h3 := okI_op h2.1; exact ⟨by omega, h3⟩
theorem sched_OfZ.calls (k : Nat) (A0_0 : Option Addr) (c0_0 : Nat) (l0_0 : List ByteArray) (A0_1 : Option Addr) (c0_1 : Nat) (l0_1 : List S24) (a0_2 a0_3 a0_4 a0_5 a0_6 : Int) (a0_7 : ByteArray) (r1 : List S62) (r2 : Int) (w : World)
    (hr0_0 : Kd.C Kd.string w A0_0 l0_0.length l0_0) (hc0_0 : l0_0.length ≤ c0_0) (hr0_1 : Kd.C k24 w A0_1 l0_1.length l0_1) (hc0_1 : l0_1.length ≤ c0_1) (h : sched_OfZ.f k l0_0 l0_1 a0_2 a0_3 a0_4 a0_5 a0_6 a0_7 = some (r1, r2)) :
    Calls Tryz.prog 8 #[.agg #[.slice A0_0 l0_0.length c0_0, .slice A0_1 l0_1.length c0_1, .int .i64 a0_2, .int .i64 a0_3, .int .i64 a0_4, .int .i64 a0_5, .int .i64 a0_6, .string a0_7]] w fun e w' => ∃ v0_ : Value, e = .returned (.tuple #[v0_, .int .i64 r2]) ∧ Kd.R k62 62 w' w.heap.size (fun _ => True) v0_ r1 ∧ Below w.heap.size w w' := by
  have hu41 := Tryz.underlying41; have hu24 := Tryz.underlying24; unfold sched_OfZ.f at h; split at h
  · rename_i hg
    obtain ⟨hlb, hlen⟩ := hg; have hl0 : l0_0 = [] := by simpa using hlb
    subst hl0; have h := Option.some.inj h; have HL := aM_ hr0_1; generalize hx : (⟨a0_2, a0_3, a0_4, a0_5, a0_6, a0_7⟩ : S24) = x at h; have e2 : a0_2 = x.f0 := by rw [← hx]
    have e3 : a0_3 = x.f1 := by rw [← hx]
    have e4 : a0_4 = x.f2 := by rw [← hx]
    have e5 : a0_5 = x.f3 := by rw [← hx]
    have e6 : a0_6 = x.f4 := by rw [← hx]
    have e7 : a0_7 = x.f5 := by rw [← hx]
    clear hx; subst e2 e3 e4 e5 e6 e7; have HM := aM_ (fun W gx hg hC => block_May.calls0 gx A0_0 c0_0 A0_1 c0_1 1 l0_1 x W hg hC hc0_1 hlen); clear hr0_0 hr0_1 hlb
    cases hm : mayBlk l0_1 x with
    | false =>
      rw [hm] at h HM; simp only [Bool.false_eq_true, if_false, Prod.mk.injEq] at h; obtain ⟨rfl, rfl⟩ := h; clear hm; rw [show ([] : List ByteArray).length = 0 from rfl]; go_enter Tryz.func8, Tryz.ntmps8
      go_wp2_with (first | ((with_reducible refine gate_dst (N := 1) rfl ?_); refine bX_ (N := 1) (cs := #[.slice A0_0 0 c0_0, .slice A0_1 l0_1.length c0_1, .int .i64 x.f0, .int .i64 x.f1, .int .i64 x.f2, .int .i64 x.f3, .int .i64 x.f4, .string x.f5]) (t := 41) ?_; intro gb hgb w1 hbox hb; have x0 : w1.cell? ⟨gb, 0, none⟩ = some (.slice A0_0 0 c0_0) := (bC_ hbox 0).trans rfl; have x1 : w1.cell? ⟨gb, 1, none⟩ = some (.slice A0_1 l0_1.length c0_1) := (bC_ hbox 1).trans rfl; have x2 : w1.cell? ⟨gb, 2, none⟩ = some (.int .i64 x.f0) := (bC_ hbox 2).trans rfl; have x3 : w1.cell? ⟨gb, 3, none⟩ = some (.int .i64 x.f1) := (bC_ hbox 3).trans rfl; have x4 : w1.cell? ⟨gb, 4, none⟩ = some (.int .i64 x.f2) := (bC_ hbox 4).trans rfl; have x5 : w1.cell? ⟨gb, 5, none⟩ = some (.int .i64 x.f3) := (bC_ hbox 5).trans rfl; have x6 : w1.cell? ⟨gb, 6, none⟩ = some (.int .i64 x.f4) := (bC_ hbox 6).trans rfl; have x7 : w1.cell? ⟨gb, 7, none⟩ = some (.string x.f5) := (bC_ hbox 7).trans rfl; have BX := aM_ hbox; have HB := aM_ hb; have HAL := aM_ (bA_ (Below.refl w1.heap.size w1) (.cells #[.slice A0_0 0 c0_0, .slice A0_1 l0_1.length c0_1, .int .i64 x.f0, .int .i64 x.f1, .int .i64 x.f2, .int .i64 x.f3, .int .i64 x.f4, .string x.f5] 41)); have HNB := aM_ (blk_new w1 (.cells #[.slice A0_0 0 c0_0, .slice A0_1 l0_1.length c0_1, .int .i64 x.f0, .int .i64 x.f1, .int .i64 x.f2, .int .i64 x.f3, .int .i64 x.f4, .string x.f5] 41)); have HB15 := aM_ (hb.trans (HAL.out.mono hb.size)); clear hbox hb hgb) | (go_at_call 31; refine (HM.out _ w1.heap.size HNB.out (Kd.C_below HL.out HB15.out)).mono ?_; rintro e w3 ⟨rfl, hb⟩; have HB2 := aM_ (HB15.out.trans (hb.mono HB15.out.size)); have BX2 := aM_ (kB_ (kB_ BX.out HAL.out) hb); clear hb x0 x1 x2 x3 x4 x5 x6 x7))
      go_ret2
      exact ⟨_, rfl, Kd.R_nil _ _ _ _ _, HB2.out⟩
    | true =>
      rw [hm] at h HM; simp only [if_true, Prod.mk.injEq] at h; obtain ⟨rfl, rfl⟩ := h; obtain ⟨ho, hn, hx0⟩ := mayBlk_partsZ hm; have HO := aM_ ho; clear hm ho; rw [show ([] : List ByteArray).length = 0 from rfl]; go_enter Tryz.func8, Tryz.ntmps8
      go_wp2_with (first | ((with_reducible refine gate_dst (N := 1) rfl ?_); refine bX_ (N := 1) (cs := #[.slice A0_0 0 c0_0, .slice A0_1 l0_1.length c0_1, .int .i64 x.f0, .int .i64 x.f1, .int .i64 x.f2, .int .i64 x.f3, .int .i64 x.f4, .string x.f5]) (t := 41) ?_; intro gb hgb w1 hbox hb; have x0 : w1.cell? ⟨gb, 0, none⟩ = some (.slice A0_0 0 c0_0) := (bC_ hbox 0).trans rfl; have x1 : w1.cell? ⟨gb, 1, none⟩ = some (.slice A0_1 l0_1.length c0_1) := (bC_ hbox 1).trans rfl; have x2 : w1.cell? ⟨gb, 2, none⟩ = some (.int .i64 x.f0) := (bC_ hbox 2).trans rfl; have x3 : w1.cell? ⟨gb, 3, none⟩ = some (.int .i64 x.f1) := (bC_ hbox 3).trans rfl; have x4 : w1.cell? ⟨gb, 4, none⟩ = some (.int .i64 x.f2) := (bC_ hbox 4).trans rfl; have x5 : w1.cell? ⟨gb, 5, none⟩ = some (.int .i64 x.f3) := (bC_ hbox 5).trans rfl; have x6 : w1.cell? ⟨gb, 6, none⟩ = some (.int .i64 x.f4) := (bC_ hbox 6).trans rfl; have x7 : w1.cell? ⟨gb, 7, none⟩ = some (.string x.f5) := (bC_ hbox 7).trans rfl; have BX := aM_ hbox; have HB := aM_ hb; have HAL := aM_ (bA_ (Below.refl w1.heap.size w1) (.cells #[.slice A0_0 0 c0_0, .slice A0_1 l0_1.length c0_1, .int .i64 x.f0, .int .i64 x.f1, .int .i64 x.f2, .int .i64 x.f3, .int .i64 x.f4, .string x.f5] 41)); have HNB := aM_ (blk_new w1 (.cells #[.slice A0_0 0 c0_0, .slice A0_1 l0_1.length c0_1, .int .i64 x.f0, .int .i64 x.f1, .int .i64 x.f2, .int .i64 x.f3, .int .i64 x.f4, .string x.f5] 41)); have HB15 := aM_ (hb.trans (HAL.out.mono hb.size)); clear hbox hb hgb) | (go_at_call 31; refine (HM.out _ w1.heap.size HNB.out (Kd.C_below HL.out HB15.out)).mono ?_; rintro e w3 ⟨rfl, hb⟩; have HB2 := aM_ (HB15.out.trans (hb.mono HB15.out.size)); have BX2 := aM_ (kB_ (kB_ BX.out HAL.out) hb); clear hb x0 x1 x2 x3 x4 x5 x6 x7; have y0 : w3.cell? ⟨gb, 0, none⟩ = some (.slice A0_0 0 c0_0) := (bC_ BX2.out 0).trans rfl; have y1 : w3.cell? ⟨gb, 1, none⟩ = some (.slice A0_1 l0_1.length c0_1) := (bC_ BX2.out 1).trans rfl; have y2 : w3.cell? ⟨gb, 2, none⟩ = some (.int .i64 x.f0) := (bC_ BX2.out 2).trans rfl; have y3 : w3.cell? ⟨gb, 3, none⟩ = some (.int .i64 x.f1) := (bC_ BX2.out 3).trans rfl; have y4 : w3.cell? ⟨gb, 4, none⟩ = some (.int .i64 x.f2) := (bC_ BX2.out 4).trans rfl; have y5 : w3.cell? ⟨gb, 5, none⟩ = some (.int .i64 x.f3) := (bC_ BX2.out 5).trans rfl; have y6 : w3.cell? ⟨gb, 6, none⟩ = some (.int .i64 x.f4) := (bC_ BX2.out 6).trans rfl; have y7 : w3.cell? ⟨gb, 7, none⟩ = some (.string x.f5) := (bC_ BX2.out 7).trans rfl) | (go_at_call 32; refine (sched_Bundles.calls A0_0 0 c0_0 A0_1 c0_1 l0_1 x _ (Kd.C_below HL.out HB2.out) hc0_1 HO.out hn hx0).mono ?_; rintro e w4 ⟨v9, rfl, hR, hb⟩; have HR := aM_ hR; have HB3 := aM_ hb; clear hR hb))
      go_ret2
      exact ⟨_, rfl, Kd.R_lower HR.out HB2.out.size, HB2.out.trans (HB3.out.mono HB2.out.size)⟩
  · exact absurd h (by simp)
end Go.Proofs.YtibfkkjkahpobaaGreat.PDag
end
section
-- the texts that this claim needs, out of this session's and its print's (wip/shrink.py)
namespace Go.Den
open Go Go.RowKit Go.Proofs Go.Proofs.YtibfkkjkahpobaaGreatW.PrintWords Go.Proofs.YtibfkkjkahpobaaGreat.PDag
def xOfZ (b : S41) : List S62 := if mayBlk b.f1 b.f2 = true then bunF b.f1 b.f2 else []
theorem o8z (b : S41) (h0 : b.f0 = []) (h1 : b.f1.length ≤ 1000000000) : CallStep Tryz.prog 8 [.agg (kBlk.flat (f41 b))] [] (.tup [(false, [.own 0]), (false, [.int .i64 (if mayBlk b.f1 b.f2 = true then 0 else 1)])]) [.row 62 kBun ((xOfZ b).map f62)] := by
  refine CallStep.mkOwn ⟨_, _, Tryz.func8, by kernel_rfl, rfl⟩ fun U ρ w vs ha => ?_; obtain ⟨v, rfl, hv⟩ := vs1 ha; obtain ⟨A0, c0, A1, c1, rfl, b1, b2, b3, b4⟩ := blkArg hv
  have hf : sched_OfZ.f 0 b.f0 b.f1 b.f2.f0 b.f2.f1 b.f2.f2 b.f2.f3 b.f2.f4 b.f2.f5 = some (xOfZ b, if mayBlk b.f1 b.f2 = true then 0 else 1) := by
    unfold sched_OfZ.f xOfZ; rw [if_pos ⟨by rw [h0]; rfl, h1⟩]; split <;> rfl
  refine Calls.mono (sched_OfZ.calls 0 A0 c0 b.f0 A1 c1 b.f1 _ _ _ _ _ _ _ _ w b2 b1 b4 b3 hf) ?_; rintro e w' ⟨v0, rfl, hR, hB⟩; refine ⟨_, v0, rfl, hB, fun g hg => ?_, fun U1 ρ1 hU hρ => ⟨br62.ownRow hR (fun a h1 h2 h3 h4 => ?_) hρ, ⟨_, rfl, ?_⟩⟩⟩
  · obtain ⟨inner, ho⟩ := Kd.R_own hR; exact ⟨own_base ho g hg, own_lt ho g hg⟩
  · rcases hU a h4 with h | h
    · omega
    · exact h3 h
  · refine All2.cons ⟨_, rfl, ?_⟩ (All2.cons ⟨_, rfl, rfl⟩ All2.nil); obtain ⟨A, c, rfl⟩ := Kd.R_slice hR; exact ⟨rfl, Nat.zero_lt_one, fun k hk => hρ.symm⟩
end Go.Den
end
section
-- the texts that this claim needs, out of this session's and its print's (wip/shrink.py)
namespace Go.Den
open Go Go.RowKit Go.Proofs Go.Proofs.YtibfkkjkahpobaaGreatW.PrintWords Go.Proofs.YtibfkkjkahpobaaGreat.PDag
theorem eqBs_self (a : List S62) : ∀ n, eqBs a a n = true
  | 0 => rfl
  | n + 1 => by rw [eqBs, eqBs_self a n]; simp [eqB, Go.Proofs.YtibfkkjkahpobaaGreat.PDag.eqI]
theorem o15 (x : List S62) (hx : x.length ≤ 1000000000) : CallStep Tryz.prog 15 [.one (.row 62 kBun (x.map f62)), .one (.row 62 kBun (x.map f62))] [] (.one (.bool true)) [] := by
  refine CallStep.mk1 ⟨_, _, Tryz.func15, by kernel_rfl, rfl⟩ fun U ρ w vs ha => ?_; obtain ⟨v, v', rfl, hv, hv'⟩ := vs2 ha; obtain ⟨A, c, rfl, b1, b2⟩ := br62.argRow (e := 62) (xs := x) hv; obtain ⟨A', c', rfl, b3, b4⟩ := br62.argRow (e := 62) (xs := x) hv'; refine Calls.mono (r0_EqBundles.calls 0 A c x A' c' x true w b2 b1 b4 b3 (by unfold r0_EqBundles.f; rw [if_pos hx, eqBs_self, decide_eq_true rfl]; rfl)) ?_; rintro e w' ⟨rfl, hB⟩; exact ⟨_, rfl, hB.below, fun U1 hU => rfl⟩
end Go.Den
end
section
-- the texts that this claim needs, out of this session's and its print's (wip/shrink.py)
namespace Go.Den
open Go Go.RowKit Go.Proofs
theorem o14 (n : Int) : CallStep Tryz.prog 14 [.one (.int .i64 n)] [] (.one (.int .i64 n)) [] := by
  refine CallStep.intro' (n := 4) (n0 := 0) (rs := [.tmp 2]) tb_ok Tryz.func14 (by kernel_rfl) rfl rfl rfl rfl rfl fun cx hcx => ?_; refine W.seqR tb_ok _ (by (repeat' first | dsimp | apply And.intro) <;> first | rfl | trivial | assumption | omega | (intros; and_intros <;> first | rfl | trivial | assumption | omega)) ?_; refine W.seqR tb_ok _ (by (repeat' first | dsimp | apply And.intro) <;> first | rfl | trivial | assumption | omega | (intros; and_intros <;> first | rfl | trivial | assumption | omega)) ?_; exact W.ret (endL1 (tb := tb) (n0 := 0) rfl rfl rfl rfl)
theorem o26 (xs : List (K.T kIns)) : CallStep Tryz.prog 26 [.one (.row 24 kIns xs), .one (.row 24 kIns xs)] [] (.one (.bool true)) [] := by
  refine CallStep.intro' (n := 26) (n0 := 0) (rs := [.tmp 4]) tb_ok Tryz.func26 (by kernel_rfl) rfl rfl rfl rfl rfl fun cx hcx => ?_; refine W.seqR tb_ok _ (by (repeat' first | dsimp | apply And.intro) <;> first | rfl | trivial | assumption | omega | (intros; and_intros <;> first | rfl | trivial | assumption | omega)) ?_; refine W.seq ?_; refine W.seqR tb_ok _ (by (repeat' first | dsimp | apply And.intro) <;> first | rfl | trivial | assumption | omega | (intros; and_intros <;> first | rfl | trivial | assumption | omega)) ?_; refine W.if_ _ rfl (fun h0 => absurd h0 (by simp)) (fun _ => W.skip ?_); refine W.seq ?_; refine W.seqR tb_ok _ (by (repeat' first | dsimp | apply And.intro) <;> first | rfl | trivial | assumption | omega | (intros; and_intros <;> first | rfl | trivial | assumption | omega)) ?_; refine W.block (W.loop (fun i : Nat => ⟨[(5, .one (.int .i64 i)), (0, .one (.row 24 kIns xs)), (1, .one (.row 24 kIns xs))], [], 26⟩) (fun i => xs.length - i) (fun i => i ≤ xs.length) 0 (Nat.zero_le _) (Le.to [] hcx rfl ⟨rfl, rfl, rfl, rfl, rfl⟩) fun i hi => ?_); refine W.rowLen 0 rfl fun hlen => ?_; refine W.seq ?_; refine W.seqR tb_ok _ (by (repeat' first | dsimp | apply And.intro) <;> first | rfl | trivial | assumption | omega | (intros; and_intros <;> first | rfl | trivial | assumption | omega)) ?_; refine W.if_ _ rfl (fun e => W.skip ?_) (fun e => W.exit ?_)
  case refine_2 =>
    refine W.seqR tb_ok _ (by (repeat' first | dsimp | apply And.intro) <;> first | rfl | trivial | assumption | omega | (intros; and_intros <;> first | rfl | trivial | assumption | omega)) ?_; exact W.ret (endL1 (tb := tb) (n0 := 0) rfl rfl rfl rfl)
  have e : i < xs.length := by have := of_decide_eq_true e; omega
  refine W.seq (W.block ?_); refine W.seqA [9] tb_ok rfl rfl _ (by (repeat' first | dsimp | apply And.intro) <;> first | rfl | trivial | assumption | omega | (intros; and_intros <;> first | rfl | trivial | assumption | omega)) ?_; refine W.if_ _ rfl (fun h0 => absurd h0 (by simp)) (fun _ => W.skip ?_); refine W.reg tb_ok _ (by (repeat' first | dsimp | apply And.intro) <;> first | rfl | trivial | assumption | omega | (intros; and_intros <;> first | rfl | trivial | assumption | omega)) ?_; refine ⟨i + 1, e, Le.to [] hcx rfl ⟨?_, rfl, rfl, rfl, rfl⟩, by omega⟩; show S.ren [] (S.one (C.int .i64 (IntKind.i64.wrap (↑i + 1)))) = _; rw [IntWalk.i64_in _ (by omega)]; rfl
end Go.Den
end
section
-- the texts that this claim needs, out of this session's and its print's (wip/shrink.py)
namespace Go.Den
open Go Go.RowKit Go.Proofs
open Go.Proofs.YtibfkkjkahpobaaGreatW.PrintWords Go.Proofs.YtibfkkjkahpobaaGreat.PDag
def wIns : S24 := ⟨23, 1, 0, 0, 5, ⟨#[]⟩⟩
def wEnd : S24 := ⟨33, 0, 0, 0, 0, ⟨#[]⟩⟩
theorem w_may0 : mayBlk [] z24 = true := by kernel_rfl
theorem w_may1 : mayBlk [wIns] wEnd = true := by kernel_rfl
theorem w_x0 : xOfZ ⟨[], [], z24⟩ = [] := by kernel_rfl
theorem w_x1 : xOfZ ⟨[], [wIns], wEnd⟩ = [⟨wIns, z24, z24, z24⟩, ⟨wEnd, z24, z24, z24⟩] := by kernel_rfl
theorem o19 : CallStep Tryz.prog 19 [] [] (.one (.bool true)) [] := by
  have h0 := o8z ⟨[], [], z24⟩ rfl (Nat.zero_le _); have h1 := o8z ⟨[], [wIns], wEnd⟩ rfl (by show 1 ≤ 1000000000; omega); rw [if_pos w_may0, w_x0] at h0; rw [if_pos w_may1, w_x1] at h1; refine CallStep.intro' (n := 52) (n0 := 0) (rs := [.tmp 0]) tb_ok Tryz.func19 (by kernel_rfl) rfl rfl rfl rfl rfl fun cx hcx => ?_; refine W.sO tb_ok ?_; refine W.sO tb_ok ?_; refine W.sO tb_ok ?_; refine W.seqR tb_ok _ (by (repeat' first | dsimp | simp only [castRow_self] | apply And.intro | (refine Exists.intro _ (Exists.intro _ (And.intro (by first | exact CallStep.pure (o14 _) rfl rfl | exact CallStep.rows (o14 _) rfl) ?_))) | (refine Exists.intro _ (And.intro (fun _ => And.intro ?_ (by first | exact CallStep.pure (o14 _) rfl rfl)) ?_))) <;> first | rfl | trivial | assumption | omega | (intros; and_intros <;> first | rfl | trivial | assumption | omega) | (intro h9; rw [h9]; rfl)) ?_; refine W.ret (endL1 (tb := tb) (n0 := 0) ?_ rfl rfl rfl); rfl
end Go.Den
end
section
-- the texts that this claim needs, out of this session's and its print's (wip/shrink.py)
namespace Go.Den
open Go Go.RowKit Go.Proofs
@[reducible] def kItem : K := .pair .str (.pair kIns .unit)
@[reducible] def kVal : K := .pair .str (.pair kI .unit)
@[reducible] def kSym : K := .pair .str (.pair .bool (.pair kI (.pair .bool .unit)))
@[reducible] def kUnit : K := .pair (.row 132 kItem) (.pair (.row 134 kVal) (.pair (.row 136 kSym) (.pair (.row 9 .str) .unit)))
def insUp (lI : List kIns.T) (st : kIns.T → Bool) : Nat → List kIns.T
  | 0 => []
  | i + 1 => if (insUp lI st i).length < 40 ∧ st (lI.getD i (K.zero kIns)) = true then insUp lI st i ++ [lI.getD i (K.zero kIns)] else insUp lI st i
theorem insUp_len (lI : List kIns.T) (st : kIns.T → Bool) : ∀ i, (insUp lI st i).length ≤ 40
  | 0 => Nat.zero_le _
  | i + 1 => by
    unfold insUp; split
    · rename_i h; rw [List.length_append]; have := h.1; show _ + 1 ≤ _; omega
    · exact insUp_len lI st i
theorem insUp_stop (lI : List kIns.T) (st : kIns.T → Bool) {i : Nat} (h : ¬ (insUp lI st i).length < 40) : ∀ d, insUp lI st (i + d) = insUp lI st i
  | 0 => rfl
  | d + 1 => by
    rw [show i + (d + 1) = (i + d) + 1 from rfl, insUp, insUp_stop lI st h d, if_neg fun hx => h hx.1]
theorem mk_step {α β : Type} {A : List β} {E : List α} {f : α → β} {j : Nat} {z : α} (h : j < E.length) : (A ++ (E.take j).map f) ++ [f (E.getD j z)] = A ++ (E.take (j + 1)).map f := by
  rw [← take_snoc (z := z) h, List.map_append, List.append_assoc]; rfl
def endsOf (x : kIns.T) : List kIns.T := [K.zero kIns, x, (33, 0, 0, 0, 0, ⟨#[]⟩, ()), (31, 0, 0, 0, 0, ⟨#[97]⟩, ()), (30, 0, 1, 0, 0, ⟨#[98]⟩, ())]
def blocksF (lI : List kIns.T) (st : kIns.T → Bool) (x : kIns.T) (lB : List kBlk.T) : List kBlk.T := lB.take 12 ++ (endsOf x).map fun e => ([], insUp lI st lI.length, e, ())
theorem o6 (lI : List kIns.T) (x0 x1 x2 x3 x4 : Int) (x5 : ByteArray) (lN : List Int) (lS : List ByteArray) (lU : List kUnit.T) (lB : List kBlk.T) (lC : List kBun.T) (st : kIns.T → Bool)
    (h12 : ∀ a, CallStep Tryz.prog 12 [.one (.row 24 kIns [a])] [] (.one (.bool (st a))) []) (hB : lB.length ≤ 1000000000) (hBs : ∀ b ∈ lB, b.1.length ≤ 1000000000 ∧ b.2.1.length ≤ 1000000000) :
    CallStep Tryz.prog 6 [.agg [.row 24 kIns lI, .int .i64 x0, .int .i64 x1, .int .i64 x2, .int .i64 x3, .int .i64 x4, .str x5, .row 3 kI lN, .row 9 .str lS, .row 122 kUnit lU, .row 41 kBlk lB, .row 62 kBun lC]] [] (.one (.own 0)) [.row 41 kBlk (blocksF lI st (x0, x1, x2, x3, x4, x5, ()) lB)] := by
  refine CallStep.intro' (n := 77) (n0 := 0) (rs := [.tmp 2]) tb_ok Tryz.func6 (by kernel_rfl) rfl rfl rfl rfl rfl fun cx hcx => ?_; refine W.sO tb_ok ?_; have q0_ := o29 lB hB hBs; refine W.sO tb_ok ?_; refine W.seq ?_; refine W.sO tb_ok ?_; refine W.ifJ ⟨[(1, .one (.ptr 0 0)), (3, .one (.own 1))], [.box 37 [.row 24 kIns lI, .int .i64 x0, .int .i64 x1, .int .i64 x2, .int .i64 x3, .int .i64 x4, .str x5, .row 3 kI lN, .row 9 .str lS, .row 122 kUnit lU, .row 41 kBlk lB, .row 62 kBun lC], .row 41 kBlk (lB.take 12)], 77⟩ _ rfl (fun e => ?_) (fun e => W.skip ?_) ?_
  · have e := of_decide_eq_true e; refine W.rO tb_ok ?_; exact Le.to [0, 3] hcx rfl ⟨rfl, rfl, rfl, rfl⟩
  · have e := of_decide_eq_false e; exact Le.to [0, 2] hcx rfl ⟨rfl, rfl, by rw [List.take_of_length_le (by omega)]; rfl, rfl⟩
  refine W.sO tb_ok ?_; refine W.seq ?_; refine W.sO tb_ok ?_; refine W.block (W.loop (fun i : Nat => ⟨[(1, .one (.ptr 0 0)), (3, .one (.own 1)), (4, .one (.ptr 4 0)), (5, .one (.int .i64 i))], [.box 37 [.row 24 kIns lI, .int .i64 x0, .int .i64 x1, .int .i64 x2, .int .i64 x3, .int .i64 x4, .str x5, .row 3 kI lN, .row 9 .str lS, .row 122 kUnit lU, .row 41 kBlk lB, .row 62 kBun lC], .row 41 kBlk (lB.take 12), .row 9 .str [], .row 24 kIns (insUp lI st i), .box 41 [.own 2, .own 3, .int .i64 0, .int .i64 0, .int .i64 0, .int .i64 0, .int .i64 0, .str ⟨#[]⟩]], 77⟩) (fun i => lI.length - i) (fun i => i ≤ lI.length) 0 (Nat.zero_le _) (Le.to [0, 1, 2, 3, 4] hcx rfl ⟨rfl, rfl, rfl, rfl, rfl, rfl⟩) fun i hi => ?_); refine W.seq ?_; refine W.sO tb_ok ?_; refine W.rowLen 21 rfl fun hlen => ?_; refine W.if_ _ rfl (fun e => W.skip ?_) (fun e => W.exit ?_)
  · have e0 : i < lI.length ∧ (insUp lI st i).length < 40 := by
      cases h : decide ((i : Int) < (lI.length : Int)) with
      | false => rw [h] at e; cases e
      | true =>
        rw [h] at e; have h := of_decide_eq_true h; have e := of_decide_eq_true (show decide (((insUp lI st i).length : Int) < 40) = true from e); omega
    have hw : IntKind.i64.wrap (↑i + 1) = ↑i + 1 := IntWalk.i64_in _ (by omega)
    have hs : (lI.take (IntKind.i64.wrap (↑i + 1)).toNat).drop (↑i : Int).toNat = [lI.getD i (K.zero kIns)] := by
      rw [hw, show ((↑i : Int) + 1).toNat = i + 1 by omega, show (↑i : Int).toNat = i from rfl, ← take_snoc (z := K.zero kIns) e0.1, List.drop_append_of_le_length (by rw [List.length_take]; omega), List.drop_of_length_le (by rw [List.length_take]; omega)]; rfl
    have h12i := h12 (lI.getD i (K.zero kIns)); rw [← hs] at h12i; refine W.seq (W.block ?_); refine W.sO tb_ok ?_; have hb : rowB 56 ((insUp lI st i).length + 1) := by show _ * _ ≤ _; omega
    refine W.if_ _ rfl (fun h => ?_) (fun h => W.skip ?_)
    · refine W.bO [9, 1, 1, 1] tb_ok ?_; refine W.rO tb_ok ?_; refine ⟨i + 1, e0.1, Le.to [0, 1, 2, 5, 4] hcx rfl ⟨rfl, rfl, rfl, ?_, ?_, rfl⟩, by omega⟩
      · show S.ren _ (S.one (.int .i64 (IntKind.i64.wrap (↑i + 1)))) = _; rw [hw]; rfl
      · rw [insUp, if_pos ⟨e0.2, h⟩]; rfl
    · refine W.rO tb_ok ?_; refine ⟨i + 1, e0.1, Le.to [0, 1, 2, 3, 4] hcx rfl ⟨rfl, rfl, rfl, ?_, ?_, rfl⟩, by omega⟩
      · show S.ren _ (S.one (.int .i64 (IntKind.i64.wrap (↑i + 1)))) = _; rw [hw]; rfl
      · rw [insUp, if_neg fun hx => by rw [h] at hx; cases hx.2]; rfl
  · have hfin : insUp lI st i = insUp lI st lI.length := by
      rcases Nat.lt_or_ge i lI.length with h | h
      · have h40 : ¬ (insUp lI st i).length < 40 := fun h4 => by
          rw [decide_eq_true (by omega : (i : Int) < (lI.length : Int))] at e; have e := of_decide_eq_false (show decide (((insUp lI st i).length : Int) < 40) = false from e); omega
        have := insUp_stop lI st h40 (lI.length - i); rw [show i + (lI.length - i) = lI.length by omega] at this; exact this.symm
      · rw [show i = lI.length by omega]
    rw [hfin]; refine W.sO tb_ok ?_; refine W.seq ?_; refine W.sO tb_ok ?_
    refine W.block (W.loop (fun j : Nat => match j with
      | 0 => ⟨[(3, .one (.own 0)), (4, .one (.ptr 3 0)), (6, .one (.own 4)), (7, .one (.int .i64 (0 : Nat)))], [.row 41 kBlk (lB.take 12 ++ ((endsOf (x0, x1, x2, x3, x4, x5, ())).take 0).map (fun e => (([], insUp lI st lI.length, e, ()) : kBlk.T))), .row 9 .str [], .row 24 kIns (insUp lI st lI.length), .box 41 [.own 1, .own 2, .int .i64 0, .int .i64 0, .int .i64 0, .int .i64 0, .int .i64 0, .str ⟨#[]⟩], .row 24 kIns (endsOf (x0, x1, x2, x3, x4, x5, ()))], 77⟩
      | j + 1 => ⟨[(3, .one (.own 0)), (4, .one (.ptr 3 0)), (6, .one (.own 4)), (7, .one (.int .i64 (j + 1 : Nat)))], [.row 41 kBlk (lB.take 12 ++ ((endsOf (x0, x1, x2, x3, x4, x5, ())).take (j + 1)).map (fun e => (([], insUp lI st lI.length, e, ()) : kBlk.T))), .frz 9 .str [], .frz 24 kIns (insUp lI st lI.length), .box 41 [.own 1, .own 2, .int .i64 0, .int .i64 0, .int .i64 0, .int .i64 0, .int .i64 0, .str ⟨#[]⟩], .row 24 kIns (endsOf (x0, x1, x2, x3, x4, x5, ()))], 77⟩) (fun j => 5 - j) (fun j => j ≤ 5) 0 (Nat.zero_le _) (Le.to [1, 2, 3, 4, 5] hcx rfl ⟨rfl, rfl, rfl, rfl, ?_, rfl⟩) fun j hj => ?_)
    · rw [List.take_zero, List.map_nil, List.append_nil]; rfl
    have hins := insUp_len lI st lI.length; have h7 := o7 ([], insUp lI st lI.length, K.zero kIns, ()) (Nat.zero_le _) (by show (insUp lI st lI.length).length ≤ 1000000000; omega); have hb : rowB 104 ((lB.take 12 ++ ((endsOf (x0, x1, x2, x3, x4, x5, ())).take j).map (fun e => (([], insUp lI st lI.length, e, ()) : kBlk.T))).length + 1) := by rw [List.length_append, List.length_map, List.length_take, List.length_take]; show _ * _ ≤ _; omega
    have hE : (endsOf (x0, x1, x2, x3, x4, x5, ())).length = 5 := rfl
    cases j with
    | zero =>
      refine W.seq ?_; refine W.sO tb_ok ?_; refine W.if_ _ rfl (fun e => W.skip ?_) (fun e => W.exit ?_)
      · replace e := of_decide_eq_true e; rw [hE] at e; refine W.seq (W.block ?_); refine W.sO tb_ok ?_; refine W.sO tb_ok ?_; refine W.rO tb_ok ?_; refine W.rO tb_ok ?_; refine ⟨1, by omega, Le.to [8, 1, 2, 3, 4] hcx rfl ⟨rfl, rfl, rfl, ?_, ?_, rfl⟩, by omega⟩
        · show S.ren _ (S.one (.int .i64 (IntKind.i64.wrap (((0 : Nat) : Int) + 1)))) = _; rw [IntWalk.i64_in _ (by omega)]; rfl
        · exact congrArg (fun r => [Blk.row 41 kBlk r, Blk.frz 9 .str [], Blk.frz 24 kIns (insUp lI st lI.length), Blk.box 41 [C.own 1, C.own 2, C.int .i64 0, C.int .i64 0, C.int .i64 0, C.int .i64 0, C.int .i64 0, C.str ⟨#[]⟩], Blk.row 24 kIns (endsOf (x0, x1, x2, x3, x4, x5, ()))]) (mk_step (A := lB.take 12) (f := (fun e => (([], insUp lI st lI.length, e, ()) : kBlk.T))) (E := endsOf (x0, x1, x2, x3, x4, x5, ())) (j := 0) (z := K.zero kIns) (by rw [hE]; omega))
      · replace e := of_decide_eq_false e; rw [hE] at e
        exact absurd e (by omega)
    | succ j =>
      refine W.seq ?_; refine W.sO tb_ok ?_; refine W.if_ _ rfl (fun e => W.skip ?_) (fun e => W.exit ?_)
      · replace e := of_decide_eq_true e; rw [hE] at e; refine W.seq (W.block ?_); refine W.sO tb_ok ?_; refine W.sO tb_ok ?_; refine W.rO tb_ok ?_; refine W.rO tb_ok ?_; refine ⟨j + 2, by omega, Le.to [8, 1, 2, 3, 4] hcx rfl ⟨rfl, rfl, rfl, ?_, ?_, rfl⟩, by omega⟩
        · show S.ren _ (S.one (.int .i64 (IntKind.i64.wrap (((j + 1 : Nat) : Int) + 1)))) = _; rw [IntWalk.i64_in _ (by omega)]; rfl
        · exact congrArg (fun r => [Blk.row 41 kBlk r, Blk.frz 9 .str [], Blk.frz 24 kIns (insUp lI st lI.length), Blk.box 41 [C.own 1, C.own 2, C.int .i64 0, C.int .i64 0, C.int .i64 0, C.int .i64 0, C.int .i64 0, C.str ⟨#[]⟩], Blk.row 24 kIns (endsOf (x0, x1, x2, x3, x4, x5, ()))]) (mk_step (A := lB.take 12) (f := (fun e => (([], insUp lI st lI.length, e, ()) : kBlk.T))) (E := endsOf (x0, x1, x2, x3, x4, x5, ())) (j := j + 1) (z := K.zero kIns) (by rw [hE]; omega))
      · replace e := of_decide_eq_false e; rw [hE] at e; obtain rfl : j = 4 := by omega
        refine W.sO tb_ok ?_; exact W.ret ⟨trivial, [0], rfl, rfl, rfl⟩
end Go.Den
end
