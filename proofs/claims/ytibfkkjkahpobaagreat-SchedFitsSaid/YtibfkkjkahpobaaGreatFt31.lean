import Derived.Test.YtibfkkjkahpobaaGreatFt30
import Derived.Test.YtibfkkjkahpobaaGreatFt24
import Derived.Test.YtibfkkjkahpobaaGreatFt28
import Derived.Test.YtibfkkjkahpobaaGreatFt25
import Derived.WideMake
import Derived.Test.YtibfkkjkahpobaaGreatFt23
import Derived.Maps.OwnOps
import Derived.Maps.OwnSet
import Derived.Maps.Views
import Derived.Test.YtibfkkjkahpobaaGreatFt29
set_option linter.unusedVariables false
set_option linter.unusedSimpArgs false
set_option maxHeartbeats 8000000
set_option maxRecDepth 100000
open Go.RowKit Go.Proofs.YtibfkkjkahpobaaGreatW.PrintWords Go.Proofs.YtibfkkjkahpobaaGreatW.PrintLast Go.Proofs.YtibfkkjkahpobaaGreatW.PrintMore
section
-- the texts that this claim needs, out of this session's and its print's (wip/shrink.py)
namespace Go.Den
open Go Go.RowKit Go.Proofs Go.Proofs.YtibfkkjkahpobaaGreatW.PrintWords Go.Proofs.YtibfkkjkahpobaaGreat.PDag
theorem plain_cond (o z e : Bool) : (bif (bif !o then true else z) then true else e) = !(o && (!e && !z)) := by cases o <;> cases z <;> cases e <;> rfl
theorem plain_false {l : List S24} {i : Nat} (h : i < l.length) (hp : plainI (J24 l i) = false) : mayL l = false := by
  rw [rd_at l i h] at hp
  cases hm : mayL l with
  | false => rfl
  | true => have := (mayL_parts hm).2 _ (List.getElem_mem h); rw [this] at hp; cases hp
theorem plain_all {l : List S24} (h : ∀ i : Nat, i < l.length → plainI (J24 l i) = true) : allPlain l = true := by
  unfold allPlain; rw [List.all_eq_true]; intro x hx; obtain ⟨i, hi, rfl⟩ := List.getElem_of_mem hx; have := h i hi; rw [rd_at l i hi] at this; exact this
theorem o12 (l : List S24) (hl : l.length ≤ 1000000000) : CallStep Tryz.prog 12 [.one (.row 24 kIns (l.map f24))] [] (.one (.bool (mayL l))) [] := by
  have hL : (l.map f24).length = l.length := List.length_map ..; refine CallStep.intro' (n := 39) (n0 := 0) (rs := [.tmp 2]) tb_ok Tryz.func12 (by kernel_rfl) rfl rfl rfl rfl rfl fun cx hcx => ?_; refine W.sO tb_ok ?_; refine W.seq ?_; refine W.sO tb_ok ?_; refine W.block (W.loop (fun i : Nat => ⟨[(3, .one (.int .i64 i)), (0, .one (.row 24 kIns (l.map f24)))], [], 39⟩) (fun i => l.length - i) (fun i => i ≤ l.length ∧ i ≤ 201 ∧ ∀ j : Nat, j < i → plainI (J24 l j) = true) 0 ⟨Nat.zero_le _, Nat.zero_le _, fun j h => absurd h (Nat.not_lt_zero _)⟩ (Le.to [] hcx rfl ⟨rfl, rfl, rfl, rfl⟩) fun i hi => ?_); obtain ⟨hi, h201, hp⟩ := hi; refine W.seq ?_; refine W.sO tb_ok ?_
  have hcc : (bif decide ((i : Int) < ((l.map f24).length : Int)) then decide ((i : Int) ≤ 200) else false) = decide (i < l.length ∧ i ≤ 200) := by
    rw [hL]; by_cases h1 : i < l.length <;> by_cases h2 : i ≤ 200 <;> simp [h1, h2] <;> omega
  refine W.if_ _ rfl (fun e => W.skip ?_) (fun e => W.exit ?_)
  case refine_2 =>
    have e1 := of_decide_eq_false (hcc.symm.trans e); refine W.sO tb_ok ?_; refine W.ret (endL1 (tb := tb) (n0 := 0) ?_ rfl rfl rfl); refine congrArg (fun b => S.one (C.bool b)) ?_; unfold mayL
    by_cases h : l.length ≤ 200
    · rw [decide_eq_true h, plain_all fun j hj => hp j (by omega)]; exact decide_eq_true (by omega)
    · rw [decide_eq_false h]; exact decide_eq_false (by omega)
  obtain ⟨e1, e2⟩ := of_decide_eq_true (hcc.symm.trans e); have hy := at24 l i e1; have h38 := o38 (g24 ((l.map f24).getD i (K.zero kIns))); rw [show okI (g24 ((l.map f24).getD i (K.zero kIns))) = okI (J24 l i) by rw [hy]; rfl] at h38; have h39 := o39 ((l.map f24).getD i (K.zero kIns)).1; rw [show endsOp ((l.map f24).getD i (K.zero kIns)).1 = endsOp (J24 l i).f0 by rw [hy]; rfl] at h39; refine W.seq (W.block ?_); refine W.sO tb_ok ?_; have hpc : (bif (bif !okI (J24 l i) then true else ((l.map f24).getD i (K.zero kIns)).1 == 0) then true else endsOp (J24 l i).f0) = !plainI (J24 l i) := by rw [plain_cond, hy]; rfl
  refine W.if_ _ rfl (fun e3 => ?_) (fun e3 => W.skip ?_)
  · have e4 := hpc.symm.trans e3; rw [Bool.not_eq_true'] at e4; rw [plain_false e1 e4]; refine W.sO tb_ok ?_; exact W.ret (endL1 (tb := tb) (n0 := 0) rfl rfl rfl rfl)
  · have e4 := hpc.symm.trans e3; rw [Bool.not_eq_false'] at e4; refine W.rO tb_ok ?_; refine ⟨i + 1, ⟨e1, by omega, fun j hj => (by rcases Nat.eq_or_lt_of_le (Nat.le_of_lt_succ hj) with h | h; rw [h]; exact e4; exact hp j h)⟩, Le.to [] hcx rfl ⟨?_, rfl, rfl, rfl⟩, by omega⟩; show S.ren _ (S.one (.int .i64 (IntKind.i64.wrap (↑i + 1)))) = _; rw [IntWalk.i64_in _ (by omega)]; rfl
def slotsL (op : Int) : List Int := if op == 0 then [0, 1, 2, 3] else if (bif (bif op == 18 then true else op == 19) then true else op == 21) = true then [1] else if (bif decide (14 ≤ op ∧ op ≤ 17) then true else op == 20) = true then [3] else if decide (24 ≤ op ∧ op ≤ 27) = true then [2] else if endsOp op = true then [0] else [0, 1]
theorem btw_eq (n a b : Int) : r0_Between.f n a b = some (decide (a ≤ n ∧ n ≤ b)) := by
  unfold r0_Between.f
  by_cases h : n ≥ a
  · rw [if_pos h]; congr 1; by_cases h2 : n ≤ b <;> simp [h2] <;> omega
  · rw [if_neg h]; congr 1; symm; rw [decide_eq_false_iff_not]; omega
theorem o76 (n a b : Int) : CallStep Tryz.prog 76 [.one (.int .i64 n), .one (.int .i64 a), .one (.int .i64 b)] [] (.one (.bool (decide (a ≤ n ∧ n ≤ b)))) [] := mkF 76 #[.int .i64 n, .int .i64 a, .int .i64 b] (.bool _) rfl rfl ⟨_, _, Tryz.func76, by kernel_rfl, rfl⟩ fun w => (r0_Between.calls n a b _ w (btw_eq n a b)).mono fun _ _ h => ⟨h.1, h.2.below⟩
theorem o82 (op : Int) : CallStep Tryz.prog 82 [.one (.int .i64 op)] [] (.one (.row 3 kI (slotsL op))) [] := by
  refine CallStep.froz (s := .one (.own 0)) (H1 := [.row 3 kI (slotsL op)]) ?_ rfl; refine CallStep.intro' (n := 36) (n0 := 0) (rs := [.tmp 2]) tb_ok Tryz.func82 (by kernel_rfl) rfl rfl rfl rfl rfl fun cx hcx => ?_; refine W.sO tb_ok ?_; refine W.seq (W.block ?_); unfold slotsL; refine W.sO tb_ok ?_; refine W.if_ _ rfl (fun e => ?_) (fun e => ?_)
  · rw [if_pos e]; refine W.sO tb_ok ?_; exact W.ret ⟨trivial, [1], rfl, rfl, rfl⟩
  rw [if_neg (by rw [e]; exact Bool.false_ne_true)]; refine W.sO tb_ok ?_; refine W.if_ _ rfl (fun e => ?_) (fun e => ?_)
  · rw [if_pos e]; refine W.sO tb_ok ?_; exact W.ret ⟨trivial, [1], rfl, rfl, rfl⟩
  rw [if_neg (by rw [e]; exact Bool.false_ne_true)]; have q0_ := o76 op 14 17; refine W.sO tb_ok ?_; refine W.if_ _ rfl (fun e => ?_) (fun e => ?_)
  · rw [if_pos e]; refine W.sO tb_ok ?_; exact W.ret ⟨trivial, [1], rfl, rfl, rfl⟩
  rw [if_neg (by rw [e]; exact Bool.false_ne_true)]; have q0_ := o76 op 24 27; refine W.sO tb_ok ?_; refine W.if_ _ rfl (fun e => ?_) (fun e => ?_)
  · rw [if_pos e]; refine W.sO tb_ok ?_; exact W.ret ⟨trivial, [1], rfl, rfl, rfl⟩
  rw [if_neg (by rw [e]; exact Bool.false_ne_true)]; have q0_ := o39 op; refine W.sO tb_ok ?_; refine W.if_ _ rfl (fun e => ?_) (fun e => ?_)
  · rw [if_pos e]; refine W.sO tb_ok ?_; exact W.ret ⟨trivial, [1], rfl, rfl, rfl⟩
  rw [if_neg (by rw [e]; exact Bool.false_ne_true)]; refine W.skip ?_; refine W.sO tb_ok ?_; exact W.ret ⟨trivial, [1], rfl, rfl, rfl⟩
theorem in_any (l : List Int) (hl : l.length ≤ 4) (v : Int) : ∃ r, r0_In.f 5 l v = some r ∧ (decide (r ≥ 0) = l.any (fun r => v == r)) := by
  unfold r0_In.f; have := in_loop l (by omega) v l.length 5 0 (by omega) (by omega); simpa using this
theorem slots_len (op : Int) : (slotsL op).length ≤ 4 := by unfold slotsL; repeat' (first | decide | split)
theorem slots_any (op s : Int) (h0 : 0 ≤ op) (h1 : op ≤ 33) (s0 : 0 ≤ s) (s1 : s ≤ 3) : (slotsL op).any (fun r => s == r) = mayOp op s := by
  have hs : s = 0 ∨ s = 1 ∨ s = 2 ∨ s = 3 := by omega
  rcases hs with rfl | rfl | rfl | rfl
  · exact upto34 (p := fun op => (slotsL op).any (fun r => (0 : Int) == r) = mayOp op 0) (by decide +kernel) op h0 h1
  · exact upto34 (p := fun op => (slotsL op).any (fun r => (1 : Int) == r) = mayOp op 1) (by decide +kernel) op h0 h1
  · exact upto34 (p := fun op => (slotsL op).any (fun r => (2 : Int) == r) = mayOp op 2) (by decide +kernel) op h0 h1
  · exact upto34 (p := fun op => (slotsL op).any (fun r => (3 : Int) == r) = mayOp op 3) (by decide +kernel) op h0 h1
theorem o46 (op s : Int) (h0 : 0 ≤ op ∧ op ≤ 33) (hs : 0 ≤ s ∧ s ≤ 3) : CallStep Tryz.prog 46 [.one (.int .i64 op), .one (.int .i64 s)] [] (.one (.bool (mayOp op s))) [] := by
  obtain ⟨r, e1, q1⟩ := in_any (slotsL op) (slots_len op) s; have h66 := o66 op; rw [decide_eq_true h0] at h66; refine CallStep.intro' (n := 14) (n0 := 0) (rs := [.tmp 4]) tb_ok Tryz.func46 (by kernel_rfl) rfl rfl rfl rfl rfl fun cx hcx => ?_; refine W.sO tb_ok ?_; have q0_ := o82 op; have q1_ := o78 (slotsL op) s r e1; refine W.sO tb_ok ?_; refine W.ret (endL1 (tb := tb) (n0 := 0) ?_ rfl rfl rfl); rw [← slots_any op s h0.1 h0.2 hs.1 hs.2, ← q1]; rfl
end Go.Den
end
section
namespace Go.Proofs.YtibfkkjkahpobaaGreat.PDag
attribute [local go_sem] max2_int min2_int max_two min_two max_three min_three max_four min_four
theorem block_May_1.calls (k : Nat) (a0_0 : Int) (a0_1 : Int) (a0_2 : Int) (a0_3 : Int) (a0_4 : Int) (a0_5 : ByteArray) (r : Bool) (w : World) (h : dag_May_1.f k a0_0 a0_1 a0_2 a0_3 a0_4 a0_5 = some r) :
    Calls Tryz.prog 57 #[.agg #[.int .i64 a0_0, .int .i64 a0_1, .int .i64 a0_2, .int .i64 a0_3, .int .i64 a0_4, .string a0_5]] w fun e w' => e = .returned (.bool r) ∧ Below w.heap.size w w' := by
  have hu24 := Tryz.underlying24; have HB := aM_ (Below.refl w.heap.size w); have H : ((block_Plain.f k a0_0 a0_1 a0_2 a0_3 a0_4 a0_5).bind fun t350 => (some (!t350))) = some r := h; clear h; obtain ⟨t350, A2, H⟩ := oB_ H; obtain rfl := oI_ H; go_enter Tryz.func57, Tryz.ntmps57
  go_wp2_with (first | ((with_reducible refine gate_dst (N := 1) rfl ?_); refine bX_ (N := 1) (cs := #[.int .i64 a0_0, .int .i64 a0_1, .int .i64 a0_2, .int .i64 a0_3, .int .i64 a0_4, .string a0_5]) (t := 24) ?_; intro gb349 hg w3 hbox hb; replace BK349 := aM_ (hbox); replace GW349 := aM_ (gE_ hg (bl_ HB)); replace GE349 := aM_ (gE_ hg (bl_ HB)); replace HB := aM_ (bT_ (bl_ HB) hb); clear hb hbox hg; obtain ⟨hcz4_0, hcz4_1, hcz4_2, hcz4_3, hcz4_4, hcz4_5⟩ := cl6_ BK349.out; obtain ⟨hfz4_0, hfz4_1, hfz4_2, hfz4_3, hfz4_4, hfz4_5⟩ := fz6_ BK349.out) | ((with_reducible refine gC_ (f := 58) rfl ?_); refine gL_ (some 4) Tryz.func58 #[.agg #[.int .i64 a0_0, .int .i64 a0_1, .int .i64 a0_2, .int .i64 a0_3, .int .i64 a0_4, .string a0_5]] rfl ?_; (with_reducible refine (block_Plain.calls k a0_0 a0_1 a0_2 a0_3 a0_4 a0_5 t350 _ A2.out).mono ?_); rintro e w5 ⟨rfl, hb⟩; refine ⟨_, rfl, ?_⟩; replace BK349 := aM_ (kB_ (rB_ BK349) hb); replace HB := aM_ (bT_ (bs_ HB GE349) hb)))
  go_ret; exact ⟨eR_, bs_ HB GE349⟩
theorem aI57_88057.calls (k : Nat) (A0 : Option Addr) (c0 : Nat) (l0 : List (S24))  (r : Int) (w : World) (hr0 : Kd.C k24 w A0 l0.length l0) (hc0 : l0.length ≤ c0) (h : aI62_88062.f k l0 = some r) :
    Calls Tryz.prog 88 #[.slice A0 l0.length c0, .func (.func 57) #[] #[]] w fun e w' => e = .returned (.int .i64 r) ∧ Below w.heap.size w w' := by
  have hu24 := Tryz.underlying24; have HR0 := aM_ hr0; have HC0 := aM_ hc0; clear hr0 hc0; have HB := aM_ (Below.refl w.heap.size w); have H : (aI62_88062.l0 k l0 (l0.length : Int) 0) = some r := h; clear h; replace H := aM_ H; go_enter Tryz.func88, Tryz.ntmps88; go_wp2
  go_loopg [8] k (fun kq v8 w' => ∃ (x8_1 : Int), v8 = .int .i64 x8_1 ∧ As_ (aI62_88062.l0 kq l0 (l0.length : Int) x8_1 = some r) ∧ As_ (kq ≤ k) ∧ As_ (Below w.heap.size w w'))
  case atStart => exact ⟨(0), eQ_, H, ⟨Nat.le_refl _⟩, ⟨bl_ HB⟩⟩
  case round =>
    clear H
    try clear p2
    obtain ⟨x8_1, rfl, HA, HK1, HB⟩ := hrel
    cases gk with
    | zero => exact absurd HA.out (by simp [aI62_88062.l0])
    | succ k1 =>
      have H := HA.out; clear HA; simp only [aI62_88062.l0] at H
      by_cases c3 : x8_1 < (l0.length : Int)
      · rw [if_pos c3] at H; have c3b0 := dE_ c3; clear c3
        by_cases c4 : 0 ≤ x8_1
        · rw [if_pos c4] at H; have c4b0 := dE_ c4; clear c4
          by_cases c5 : x8_1 < (l0.length : Int)
          · rw [if_pos c5] at H; have c5b0 := dE_ c5; clear c5; obtain ⟨t352, A6, H⟩ := oB_ H
            by_cases c7 : t352 = true
            · subst c7; rw [if_pos rfl] at H; obtain rfl := oI_ H; have p351 : 0 ≤ (x8_1 : Int) := oD_; have q351 : x8_1 < (l0.length : Int) := oD_; obtain ⟨ad351, e351, hx351_0, hx351_1, hx351_2, hx351_3, hx351_4, hx351_5⟩ := at_T24 HR0.out x8_1 p351 q351
              cases e351
              replace hx351_0 := hC_ HB hx351_0; replace hx351_1 := hC_ HB hx351_1; replace hx351_2 := hC_ HB hx351_2; replace hx351_3 := hC_ HB hx351_3; replace hx351_4 := hC_ HB hx351_4; replace hx351_5 := hC_ HB hx351_5; replace p351 := eq_true p351; replace q351 := eq_true q351
              go_wp2_with (first | (go_at_call 57; (with_reducible refine (block_May_1.calls k1 ((J24 l0 x8_1).f0) ((J24 l0 x8_1).f1) ((J24 l0 x8_1).f2) ((J24 l0 x8_1).f3) ((J24 l0 x8_1).f4) ((J24 l0 x8_1).f5) true _ A6.out).mono ?_); rintro e w8 ⟨rfl, hb⟩; replace HB := aM_ (bT_ (bl_ HB) hb)))
              go_ret; exact ⟨eR_, bl_ HB⟩
            · replace c7 := eF_ c7; subst c7; rw [if_neg Bool.false_ne_true] at H; replace H := aM_ H; have p351 : 0 ≤ (x8_1 : Int) := oD_; have q351 : x8_1 < (l0.length : Int) := oD_; obtain ⟨ad351, e351, hx351_0, hx351_1, hx351_2, hx351_3, hx351_4, hx351_5⟩ := at_T24 HR0.out x8_1 p351 q351
              cases e351
              replace hx351_0 := hC_ HB hx351_0; replace hx351_1 := hC_ HB hx351_1; replace hx351_2 := hC_ HB hx351_2; replace hx351_3 := hC_ HB hx351_3; replace hx351_4 := hC_ HB hx351_4; replace hx351_5 := hC_ HB hx351_5; replace p351 := eq_true p351; replace q351 := eq_true q351
              go_wp2_with (first | (go_at_call 57; (with_reducible refine (block_May_1.calls k1 ((J24 l0 x8_1).f0) ((J24 l0 x8_1).f1) ((J24 l0 x8_1).f2) ((J24 l0 x8_1).f3) ((J24 l0 x8_1).f4) ((J24 l0 x8_1).f5) false _ A6.out).mono ?_); rintro e w9 ⟨rfl, hb⟩; replace HB := aM_ (bT_ (bl_ HB) hb)))
              go_roundg k1
              case measure => have := HK1.out; omega
              case rel => exact ⟨(wrap64 (x8_1 + 1)), eQ_, H, ⟨by have := HK1.out; omega⟩, ⟨bl_ HB⟩⟩
          · rw [if_neg c5] at H; exact absurd H (by simp)
        · rw [if_neg c4] at H; exact absurd H (by simp)
      · rw [if_neg c3] at H; have c3b0 := dF_ c3; clear c3; obtain rfl := oI_ H; go_wp2; go_ret; exact ⟨eR_, bl_ HB⟩
theorem aI57_56057.calls (k : Nat) (A0 : Option Addr) (c0 : Nat) (l0 : List (S24))  (r : Bool) (w : World) (hr0 : Kd.C k24 w A0 l0.length l0) (hc0 : l0.length ≤ c0) (h : aI62_56062.f k l0 = some r) :
    Calls Tryz.prog 56 #[.slice A0 l0.length c0, .func (.func 57) #[] #[]] w fun e w' => e = .returned (.bool r) ∧ Below w.heap.size w w' := by
  have HR0 := aM_ hr0; have HC0 := aM_ hc0; clear hr0 hc0; have HB := aM_ (Below.refl w.heap.size w); have H : ((aI62_88062.f k l0).bind fun t353 => (some (decide (t353 ≥ 0)))) = some r := h; clear h; obtain ⟨t353, A3, H⟩ := oB_ H; obtain rfl := oI_ H; go_enter Tryz.func56, Tryz.ntmps56
  go_wp2_with (first | ((with_reducible refine gC_ (f := 88) rfl ?_); refine gL_ (some 7) Tryz.func88 #[.slice A0 l0.length c0, .func (.func 57) #[] #[]] rfl ?_; (with_reducible refine (aI57_88057.calls k _ _ l0  t353 _ ?side1 ?side2 A3.out).mono ?_); (case side1 => exact rC_ HR0.out); (case side2 => exact HC0.out); rintro e w4 ⟨rfl, hb⟩; refine ⟨_, rfl, ?_⟩; replace HB := aM_ (bT_ (bl_ HB) hb)))
  go_ret; exact ⟨eR_, bl_ HB⟩
end Go.Proofs.YtibfkkjkahpobaaGreat.PDag
end
section
namespace Go.Proofs.YtibfkkjkahpobaaGreat.PDag
attribute [local go_sem] Oper.semAt_some
attribute [local go_sem high] eqA24
def zeroI (x : S24) : Bool := x.f0 == 0 && (x.f1 == 0 && (x.f2 == 0 && (x.f3 == 0 && (x.f4 == 0 && x.f5.toList.isEmpty))))
def mayBlk (l : List S24) (x : S24) : Bool := allPlain l && (if zeroI x = true then decide (l.length ≤ 200) else okI x && (endsOp x.f0 && decide (l.length + 1 ≤ 200)))
theorem contains_eq (l : List S24) (hl : l.length ≤ 1000000000) : aI62_56062.f (62 + l.length) l = some (!allPlain l) := by
  unfold aI62_56062.f aI62_88062.f; obtain ⟨r, h1, h2⟩ := idx_loop l hl l.length (62 + l.length) 0 (by omega) (by omega); rw [show ((0 : Nat) : Int) = 0 from rfl] at h1; rw [h1]; simp only [Option.bind_some, h2, List.drop_zero]; rfl
def totB (l : List S24) (x : S24) : Int := if zeroI x = true then l.length else l.length + 1
theorem block_May.calls0 (g : Nat) (A0 : Option Addr) (c0 : Nat) (Al : Option Addr) (cl cp : Nat) (l : List S24) (x : S24) (w : World) (hg : w.heap[g]? = some (.cells #[.slice A0 0 c0, .slice Al l.length cl, .int .i64 x.f0, .int .i64 x.f1, .int .i64 x.f2, .int .i64 x.f3, .int .i64 x.f4, .string x.f5] 41 (0, 0)))
    (hl : Kd.C k24 w Al l.length l) (hcl : l.length ≤ cl) (hmx : l.length ≤ 1000000000) :
    Calls Tryz.prog 31 #[.slice (some ⟨g, 0, none⟩) 1 cp] w fun e w' => e = .returned (.bool (mayBlk l x)) ∧ Below w.heap.size w w' := by
  have hu41 := Tryz.underlying41; have hu24 := Tryz.underlying24; have hmm := @run_makeMap_plain Tryz.prog; have HG := aM_ hg; have HL := aM_ hl; clear hg hl; go_enter Tryz.func31, Tryz.ntmps31; go_wp2; have HM := aM_ (blk_new w (.map #[] 0)); have HB := aM_ (bA_ (Below.refl w.heap.size w) (.map #[] 0)); generalize hmp : w.heap.size = mp at HM HB ⊢
  go_loopw [4, 12] (fun v i wr => ∃ j : Nat, j ≤ 1 ∧ i = .int .i64 j ∧ v = .int .i64 (if j = 0 then 0 else totB l x) ∧ As_ (j = 1 → mayBlk l x = decide (totB l x ≤ 200)) ∧ As_ (wr.heap[mp]? = some (.map #[] 0)) ∧ As_ (Below mp w wr)) (fun _ i _ => 1 - (intOf i).toNat)
  case atStart => exact ⟨0, by omega, rfl, rfl, ⟨fun h => by cases h⟩, ⟨HM.out⟩, ⟨HB.out⟩⟩
  case round =>
    clear HM HB; obtain ⟨j, hj, rfl, rfl, HJ, HM, HB⟩ := hrel
    by_cases hlt : j = 0
    · subst hlt; have HG1 := aM_ ((HB.out.block g (by rw [← hmp]; exact blk_lt HG.out)).trans HG.out); have hx0 : wr.cell? ⟨g, 0, none⟩ = some (.slice A0 0 c0) := (bC_ HG1.out 0).trans rfl; have hx1 : wr.cell? ⟨g, 1, none⟩ = some (.slice Al l.length cl) := (bC_ HG1.out 1).trans rfl; have hx2 : wr.cell? ⟨g, 2, none⟩ = some (.int .i64 x.f0) := (bC_ HG1.out 2).trans rfl; have hx3 : wr.cell? ⟨g, 3, none⟩ = some (.int .i64 x.f1) := (bC_ HG1.out 3).trans rfl; have hx4 : wr.cell? ⟨g, 4, none⟩ = some (.int .i64 x.f2) := (bC_ HG1.out 4).trans rfl; have hx5 : wr.cell? ⟨g, 5, none⟩ = some (.int .i64 x.f3) := (bC_ HG1.out 5).trans rfl; have hx6 : wr.cell? ⟨g, 6, none⟩ = some (.int .i64 x.f4) := (bC_ HG1.out 6).trans rfl; have hx7 : wr.cell? ⟨g, 7, none⟩ = some (.string x.f5) := (bC_ HG1.out 7).trans rfl; go_wp2; have HX := aM_ (blk_new wr (.cells #[.slice A0 0 c0, .slice Al l.length cl, .int .i64 x.f0, .int .i64 x.f1, .int .i64 x.f2, .int .i64 x.f3, .int .i64 x.f4, .string x.f5] 41 (0, 0))); have hb1 := bA_ (Below.refl wr.heap.size wr) (.cells #[.slice A0 0 c0, .slice Al l.length cl, .int .i64 x.f0, .int .i64 x.f1, .int .i64 x.f2, .int .i64 x.f3, .int .i64 x.f4, .string x.f5] 41 (0, 0)); have hmle : mp ≤ wr.heap.size := by rw [← hmp]; exact HB.out.size
      have HM1 := aM_ (kB_ HM.out hb1); have HB1 := aM_ (HB.out.trans (hb1.mono hmle)); clear hb1 HM HB HG1 hx0 hx1 hx2 hx3 hx4 hx5 hx6 hx7; generalize wr.heap.size = gx at HX hmle ⊢; generalize wr.alloc (.cells #[.slice A0 0 c0, .slice Al l.length cl, .int .i64 x.f0, .int .i64 x.f1, .int .i64 x.f2, .int .i64 x.f3, .int .i64 x.f4, .string x.f5] 41 (0, 0)) = W1 at HX HM1 HB1 ⊢; refine wp_loop_once ?_; have x1 : W1.cell? ⟨gx, 1, none⟩ = some (.slice Al l.length cl) := (bC_ HX.out 1).trans rfl; have HC := aM_ (aI57_56057.calls (62 + l.length) Al cl l _ W1 (Kd.C_below HL.out (by rw [hmp]; exact HB1.out)) hcl (contains_eq l hmx))
      cases hp : allPlain l with
      | false =>
        rw [hp] at HC
        go_wp2_with (go_at_call 56; refine HC.out.mono ?_; rintro e w' ⟨rfl, hb⟩; have HB2 := aM_ hb; clear hb)
        go_ret
        exact ⟨by simp [mayBlk, hp], by rw [hmp]; exact HB1.out.trans (HB2.out.mono (Nat.le_trans hmle (Nat.le_of_lt (blk_lt HX.out))))⟩
      | true =>
        rw [hp] at HC; have HP := aM_ hp; clear hp; have hwl : wrap64 (0 + (l.length : Int)) = (l.length : Int) := by unfold wrap64; omega
        cases hz : zeroI x with
        | true =>
          have z1 : (x.f0 == 0 && (x.f1 == 0 && (x.f2 == 0 && (x.f3 == 0 && (x.f4 == 0 && x.f5.toList.isEmpty))))) = true := hz
          go_wp2_with (go_at_call 56; refine HC.out.mono ?_; rintro e w' ⟨rfl, hb⟩; have HX2 := aM_ (kB_ HX.out hb); have HM2 := aM_ (kB_ HM1.out hb); have HB2 := aM_ (HB1.out.trans (hb.mono (Nat.le_trans hmle (Nat.le_of_lt (blk_lt HX.out))))); clear hb x1; have y1 : w'.cell? ⟨gx, 1, none⟩ = some (.slice Al l.length cl) := (bC_ HX2.out 1).trans rfl; have y2 : w'.cell? ⟨gx, 2, none⟩ = some (.int .i64 x.f0) := (bC_ HX2.out 2).trans rfl; have y3 : w'.cell? ⟨gx, 3, none⟩ = some (.int .i64 x.f1) := (bC_ HX2.out 3).trans rfl; have y4 : w'.cell? ⟨gx, 4, none⟩ = some (.int .i64 x.f2) := (bC_ HX2.out 4).trans rfl; have y5 : w'.cell? ⟨gx, 5, none⟩ = some (.int .i64 x.f3) := (bC_ HX2.out 5).trans rfl; have y6 : w'.cell? ⟨gx, 6, none⟩ = some (.int .i64 x.f4) := (bC_ HX2.out 6).trans rfl; have y7 : w'.cell? ⟨gx, 7, none⟩ = some (.string x.f5) := (bC_ HX2.out 7).trans rfl)
          refine ⟨⟨1, Nat.le_refl _, by first | rfl | (congr 1), by simp [totB, hz], ⟨fun _ => by simp [mayBlk, totB, hz, HP.out]; omega⟩, ⟨HM2.out⟩, ⟨HB2.out⟩⟩, by simp [intOf]⟩
        | false =>
          have z1 : (x.f0 == 0 && (x.f1 == 0 && (x.f2 == 0 && (x.f3 == 0 && (x.f4 == 0 && x.f5.toList.isEmpty))))) = false := hz; have hw2 : wrap64 ((l.length : Int) + 1) = (l.length : Int) + 1 := by unfold wrap64; omega
          have HI := aM_ (fun W => isa_IsIns.calls 50 x.f0 x.f1 x.f2 x.f3 x.f4 x.f5 _ W (isa_ins_eq (Nat.le_refl _) x.f0 x.f1 x.f2 x.f3 x.f4 x.f5))
          cases hI : okI x with
          | false =>
            have hI' : insOk x.f0 x.f1 x.f2 x.f3 x.f4 x.f5 = false := hI; rw [hI'] at HI; clear hI'
            go_wp2_with (first | (go_at_call 56; refine HC.out.mono ?_; rintro e w' ⟨rfl, hb⟩; have HX2 := aM_ (kB_ HX.out hb); have HM2 := aM_ (kB_ HM1.out hb); have HB2 := aM_ (HB1.out.trans (hb.mono (Nat.le_trans hmle (Nat.le_of_lt (blk_lt HX.out))))); clear hb x1; have y1 : w'.cell? ⟨gx, 1, none⟩ = some (.slice Al l.length cl) := (bC_ HX2.out 1).trans rfl; have y2 : w'.cell? ⟨gx, 2, none⟩ = some (.int .i64 x.f0) := (bC_ HX2.out 2).trans rfl; have y3 : w'.cell? ⟨gx, 3, none⟩ = some (.int .i64 x.f1) := (bC_ HX2.out 3).trans rfl; have y4 : w'.cell? ⟨gx, 4, none⟩ = some (.int .i64 x.f2) := (bC_ HX2.out 4).trans rfl; have y5 : w'.cell? ⟨gx, 5, none⟩ = some (.int .i64 x.f3) := (bC_ HX2.out 5).trans rfl; have y6 : w'.cell? ⟨gx, 6, none⟩ = some (.int .i64 x.f4) := (bC_ HX2.out 6).trans rfl; have y7 : w'.cell? ⟨gx, 7, none⟩ = some (.string x.f5) := (bC_ HX2.out 7).trans rfl) | (go_at_call 59; refine (HI.out _).mono ?_; rintro e w3 ⟨rfl, hb⟩; have HB3 := aM_ hb; clear hb))
            go_ret
            exact ⟨by simp [mayBlk, HP.out, hz, hI], by rw [hmp]; exact HB2.out.trans (HB3.out.mono (Nat.le_trans hmle (Nat.le_of_lt (blk_lt HX2.out))))⟩
          | true =>
            have hI' : insOk x.f0 x.f1 x.f2 x.f3 x.f4 x.f5 = true := hI; rw [hI'] at HI; clear hI'
            go_wp2_with (first | (go_at_call 56; refine HC.out.mono ?_; rintro e w' ⟨rfl, hb⟩; have HX2 := aM_ (kB_ HX.out hb); have HM2 := aM_ (kB_ HM1.out hb); have HB2 := aM_ (HB1.out.trans (hb.mono (Nat.le_trans hmle (Nat.le_of_lt (blk_lt HX.out))))); clear hb x1; have y1 : w'.cell? ⟨gx, 1, none⟩ = some (.slice Al l.length cl) := (bC_ HX2.out 1).trans rfl; have y2 : w'.cell? ⟨gx, 2, none⟩ = some (.int .i64 x.f0) := (bC_ HX2.out 2).trans rfl; have y3 : w'.cell? ⟨gx, 3, none⟩ = some (.int .i64 x.f1) := (bC_ HX2.out 3).trans rfl; have y4 : w'.cell? ⟨gx, 4, none⟩ = some (.int .i64 x.f2) := (bC_ HX2.out 4).trans rfl; have y5 : w'.cell? ⟨gx, 5, none⟩ = some (.int .i64 x.f3) := (bC_ HX2.out 5).trans rfl; have y6 : w'.cell? ⟨gx, 6, none⟩ = some (.int .i64 x.f4) := (bC_ HX2.out 6).trans rfl; have y7 : w'.cell? ⟨gx, 7, none⟩ = some (.string x.f5) := (bC_ HX2.out 7).trans rfl) | (go_at_call 59; refine (HI.out _).mono ?_; rintro e w3 ⟨rfl, hb⟩; have HM3 := aM_ (kB_ HM2.out hb); have HX3 := aM_ (kB_ HX2.out hb); have y22 : w3.cell? ⟨gx, 2, none⟩ = some (.int .i64 x.f0) := (bC_ HX3.out 2).trans rfl; have HB3 := aM_ (HB2.out.trans (hb.mono (Nat.le_trans hmle (Nat.le_of_lt (blk_lt HX2.out))))); clear hb) | (go_at_call 60; refine (isa_Ends.calls x.f0 _ _ (ends_eq x.f0)).mono ?_; rintro e w4 ⟨rfl, ⟨nd, rfl⟩⟩; have HB4 := aM_ (bN_ HB3.out nd); cases hE : endsOp x.f0))
            · go_ret; exact ⟨by simp [mayBlk, HP.out, hz, hI, hE], by rw [hmp]; exact HB4.out⟩
            · refine ⟨⟨1, Nat.le_refl _, by first | rfl | (congr 1), by simp [totB, hz], ⟨fun _ => by simp [mayBlk, totB, hz, HP.out, hI, hE]; omega⟩, ⟨HM3.out⟩, ⟨HB4.out⟩⟩, by simp [intOf]⟩
    · obtain rfl : j = 1 := by omega
      have hJ := HJ.out rfl; have hm0 := HM.out; rw [if_neg (by decide)]; have ht0 : 0 ≤ totB l x := by unfold totB; split <;> omega
      have q1 : (((1 : Nat) : Int) < 1) = False := eq_false (by omega)
      by_cases hT : totB l x ≤ 200
      · have c1 : (totB l x ≤ 200) = True := eq_true hT; have c2 : decide (totB l x ≤ 200) = true := decide_eq_true hT; clear hT; rw [c2] at hJ; have HJ2 := aM_ hJ; clear hJ HJ; have hu103 : Tryz.prog.underlying 103 = some (.map (Tryz.prog.mapKeyOf 103) (Tryz.prog.mapElemOf 103)) := by kernel_rfl
        have hlm : ∀ ty, (Builtin.len_ #[103] ty #[.map (some mp)]).run Tryz.prog wr = .ok (.int .i64 0) wr := fun ty => by
          have h_ := run_len_map (P := Tryz.prog) wr 103 ty mp #[] 0 hu103 hm0; exact h_
        go_wp2; go_ret; exact ⟨by rw [HJ2.out]; rfl, by rw [hmp]; exact HB.out⟩
      · have c1 : (totB l x ≤ 200) = False := eq_false hT; have c2 : decide (totB l x ≤ 200) = false := decide_eq_false hT; clear hT; rw [c2] at hJ; have HJ2 := aM_ hJ; clear hJ HJ; go_wp2; go_ret; exact ⟨by rw [HJ2.out]; rfl, by rw [hmp]; exact HB.out⟩
end Go.Proofs.YtibfkkjkahpobaaGreat.PDag
end
section
namespace Go.Proofs.YtibfkkjkahpobaaGreat.PDag
open Go.Maps (setOf)
open Go.WideMaps (keyOf_string_mk)
attribute [local go_sem] Oper.semAt_some
attribute [local go_sem high] eqA24
def lit (s : ByteArray) : Lit := .string s.data.toList
def no : DataW Unit := .lit (.bool false)
theorem take_snoc (ls : List ByteArray) (j : Nat) (hj : j < ls.length) : ls.take j ++ [ls.getD j ByteArray.empty] = ls.take (j + 1) := by
  rw [List.take_add_one, List.getD_eq_getElem?_getD, List.getElem?_eq_getElem hj]; rfl
end Go.Proofs.YtibfkkjkahpobaaGreat.PDag
end
section
namespace Go.Proofs.YtibfkkjkahpobaaGreat.PDag
attribute [local go_sem] Oper.semAt_some
end Go.Proofs.YtibfkkjkahpobaaGreat.PDag
end
section
-- the texts that this claim needs, out of this session's and its print's (wip/shrink.py)
namespace Go.Den
open Go Go.RowKit Go.Proofs Go.Proofs.YtibfkkjkahpobaaGreatW.PrintWords Go.Proofs.YtibfkkjkahpobaaGreat.PDag
end Go.Den
end
section
-- the texts that this claim needs, out of this session's and its print's (wip/shrink.py)
namespace Go.Den
open Go Go.RowKit Go.Proofs
theorem take_snoc {α : Type} {xs : List α} {i : Nat} {z : α} (hi : i < xs.length) : xs.take i ++ [xs.getD i z] = xs.take (i + 1) := by
  rw [List.take_add_one, List.getD_eq_getElem?_getD, List.getElem?_eq_getElem hi]; rfl
theorem o30 (xs : List (K.T .str)) (hx : xs.length ≤ 1000000000) : CallStep Tryz.prog 30 [.one (.row 9 .str xs)] [] (.one (.own 0)) [.row 9 .str xs] := by
  refine CallStep.intro' (n := 19) (n0 := 0) (rs := [.tmp 2]) tb_ok Tryz.func30 (by kernel_rfl) rfl rfl rfl rfl rfl fun cx hcx => ?_; refine W.sO tb_ok ?_; refine W.sO tb_ok ?_; refine W.seq ?_; refine W.sO tb_ok ?_; refine W.block (W.loop (fun i : Nat => ⟨[(4, .one (.int .i64 i)), (3, .one (.own 0)), (0, .one (.row 9 .str xs))], [.row 9 .str (xs.take i)], 19⟩) (fun i => xs.length - i) (fun i => i ≤ xs.length) 0 (Nat.zero_le _) (Le.to [1] hcx rfl ⟨rfl, rfl, rfl, rfl, rfl⟩) fun i hi => ?_); refine W.seq ?_; refine W.sO tb_ok ?_; refine W.if_ _ rfl (fun e => W.skip ?_) (fun e => W.exit ?_)
  case refine_2 =>
    refine W.sO tb_ok ?_; have hi2 : i = xs.length := by have := of_decide_eq_false e; omega
    subst hi2; exact W.ret ⟨trivial, [0], rfl, rfl, by show [Blk.row 9 .str (xs.take xs.length)] = _; rw [List.take_length]⟩
  have e : i < xs.length := by have := of_decide_eq_true e; omega
  have hb : rowB 16 ((xs.take i).length + 1) := by rw [List.length_take]; show _ * _ ≤ _; omega
  refine W.seq (W.block ?_); refine W.rO tb_ok ?_; refine W.rO tb_ok ?_; refine ⟨i + 1, e, Le.to [1] hcx rfl ⟨?_, rfl, rfl, ?_, rfl⟩, by omega⟩
  · show S.ren _ (S.one (.int .i64 (IntKind.i64.wrap (↑i + 1)))) = _; rw [IntWalk.i64_in _ (by omega)]; rfl
  · rw [← take_snoc (z := K.zero .str) e]; rfl
theorem o22 (xs : List (K.T kIns)) (hx : xs.length ≤ 1000000000) : CallStep Tryz.prog 22 [.one (.row 24 kIns xs)] [] (.one (.own 0)) [.row 24 kIns xs] := by
  refine CallStep.intro' (n := 19) (n0 := 0) (rs := [.tmp 2]) tb_ok Tryz.func22 (by kernel_rfl) rfl rfl rfl rfl rfl fun cx hcx => ?_; refine W.sO tb_ok ?_; refine W.sO tb_ok ?_; refine W.seq ?_; refine W.sO tb_ok ?_; refine W.block (W.loop (fun i : Nat => ⟨[(4, .one (.int .i64 i)), (3, .one (.own 0)), (0, .one (.row 24 kIns xs))], [.row 24 kIns (xs.take i)], 19⟩) (fun i => xs.length - i) (fun i => i ≤ xs.length) 0 (Nat.zero_le _) (Le.to [1] hcx rfl ⟨rfl, rfl, rfl, rfl, rfl⟩) fun i hi => ?_); refine W.seq ?_; refine W.sO tb_ok ?_; refine W.if_ _ rfl (fun e => W.skip ?_) (fun e => W.exit ?_)
  case refine_2 =>
    refine W.sO tb_ok ?_; have hi2 : i = xs.length := by have := of_decide_eq_false e; omega
    subst hi2; exact W.ret ⟨trivial, [0], rfl, rfl, by show [Blk.row 24 kIns (xs.take xs.length)] = _; rw [List.take_length]⟩
  have e : i < xs.length := by have := of_decide_eq_true e; omega
  have hb : rowB 56 ((xs.take i).length + 1) := by rw [List.length_take]; show _ * _ ≤ _; omega
  refine W.seq (W.block ?_); refine W.rO tb_ok ?_; refine W.rO tb_ok ?_; refine ⟨i + 1, e, Le.to [1] hcx rfl ⟨?_, rfl, rfl, ?_, rfl⟩, by omega⟩
  · show S.ren _ (S.one (.int .i64 (IntKind.i64.wrap (↑i + 1)))) = _; rw [IntWalk.i64_in _ (by omega)]; rfl
  · rw [← take_snoc (z := K.zero kIns) e]; rfl
theorem o7 (b : kBlk.T) (h0 : b.1.length ≤ 1000000000) (h1 : b.2.1.length ≤ 1000000000) : CallStep Tryz.prog 7 [.agg (kBlk.flat b)] [] (.agg (kBlk.flat b)) [] := by
  refine CallStep.intro' (n := 14) (n0 := 0) (rs := [.cell 2 41]) tb_ok Tryz.func7 (by kernel_rfl) rfl rfl rfl rfl rfl fun cx hcx => ?_; refine W.sO tb_ok ?_; refine W.sO tb_ok ?_; have q0_ := o30 b.1 h0; refine W.sO tb_ok ?_; have q0_ := o22 b.2.1 h1; refine W.sO tb_ok ?_; refine W.sO tb_ok ?_; refine W.ret ?_; dsimp; exact ⟨⟨trivial, trivial⟩, [], rfl, rfl, rfl⟩
theorem o29 (xs : List (K.T kBlk)) (hx : xs.length ≤ 1000000000) (hxs : ∀ b ∈ xs, b.1.length ≤ 1000000000 ∧ b.2.1.length ≤ 1000000000) : CallStep Tryz.prog 29 [.one (.row 41 kBlk xs)] [] (.one (.own 0)) [.row 41 kBlk xs] := by
  refine CallStep.intro' (n := 20) (n0 := 0) (rs := [.tmp 2]) tb_ok Tryz.func29 (by kernel_rfl) rfl rfl rfl rfl rfl fun cx hcx => ?_; refine W.sO tb_ok ?_; refine W.sO tb_ok ?_; refine W.seq ?_; refine W.sO tb_ok ?_; refine W.block (W.loop (fun i : Nat => ⟨[(4, .one (.int .i64 i)), (3, .one (.own 0)), (0, .one (.row 41 kBlk xs))], [.row 41 kBlk (xs.take i)], 20⟩) (fun i => xs.length - i) (fun i => i ≤ xs.length) 0 (Nat.zero_le _) (Le.to [1] hcx rfl ⟨rfl, rfl, rfl, rfl, rfl⟩) fun i hi => ?_); refine W.seq ?_; refine W.sO tb_ok ?_; refine W.if_ _ rfl (fun e => W.skip ?_) (fun e => W.exit ?_)
  case refine_2 =>
    refine W.sO tb_ok ?_; have hi2 : i = xs.length := by have := of_decide_eq_false e; omega
    subst hi2; exact W.ret ⟨trivial, [0], rfl, rfl, by show [Blk.row 41 kBlk (xs.take xs.length)] = _; rw [List.take_length]⟩
  have e : i < xs.length := by have := of_decide_eq_true e; omega
  have hb : rowB 104 ((xs.take i).length + 1) := by rw [List.length_take]; show _ * _ ≤ _; omega
  have he := hxs (xs.getD i (K.zero kBlk)) (by rw [List.getD_eq_getElem?_getD, List.getElem?_eq_getElem e]; exact List.getElem_mem e); refine W.seq (W.block ?_); have q0_ := o7 (xs.getD i (K.zero kBlk)) he.1 he.2; refine W.rO tb_ok ?_; refine W.rO tb_ok ?_; refine ⟨i + 1, e, Le.to [1] hcx rfl ⟨?_, rfl, rfl, ?_, rfl⟩, by omega⟩
  · show S.ren _ (S.one (.int .i64 (IntKind.i64.wrap (↑i + 1)))) = _; rw [IntWalk.i64_in _ (by omega)]; rfl
  · rw [← take_snoc (z := K.zero kBlk) e]; rfl
end Go.Den
end
section
-- the texts that this claim needs, out of this session's and its print's (wip/shrink.py)
namespace Go.Den
open Go Go.RowKit Go.Proofs Go.Proofs.YtibfkkjkahpobaaGreatW.PrintWords Go.Proofs.YtibfkkjkahpobaaGreat.PDag
theorem o20 (xs : List (K.T kBun)) (hx : xs.length ≤ 1000000000) : CallStep Tryz.prog 20 [.one (.row 62 kBun xs)] [] (.one (.own 0)) [.row 62 kBun xs] := by
  refine CallStep.intro' (n := 19) (n0 := 0) (rs := [.tmp 2]) tb_ok Tryz.func20 (by kernel_rfl) rfl rfl rfl rfl rfl fun cx hcx => ?_; refine W.sO tb_ok ?_; refine W.sO tb_ok ?_; refine W.seq ?_; refine W.sO tb_ok ?_; refine W.block (W.loop (fun i : Nat => ⟨[(4, .one (.int .i64 i)), (3, .one (.own 0)), (0, .one (.row 62 kBun xs))], [.row 62 kBun (xs.take i)], 19⟩) (fun i => xs.length - i) (fun i => i ≤ xs.length) 0 (Nat.zero_le _) (Le.to [1] hcx rfl ⟨rfl, rfl, rfl, rfl, rfl⟩) fun i hi => ?_); refine W.seq ?_; refine W.sO tb_ok ?_; refine W.if_ _ rfl (fun e => W.skip ?_) (fun e => W.exit ?_)
  case refine_2 =>
    refine W.sO tb_ok ?_; have hi2 : i = xs.length := by have := of_decide_eq_false e; omega
    subst hi2; exact W.ret ⟨trivial, [0], rfl, rfl, by show [Blk.row 62 kBun (xs.take xs.length)] = _; rw [List.take_length]⟩
  have e : i < xs.length := by have := of_decide_eq_true e; omega
  have hb : rowB 224 ((xs.take i).length + 1) := by rw [List.length_take]; show _ * _ ≤ _; omega
  refine W.seq (W.block ?_); refine W.rO tb_ok ?_; refine W.rO tb_ok ?_; refine ⟨i + 1, e, Le.to [1] hcx rfl ⟨?_, rfl, rfl, ?_, rfl⟩, by omega⟩
  · show S.ren _ (S.one (.int .i64 (IntKind.i64.wrap (↑i + 1)))) = _; rw [IntWalk.i64_in _ (by omega)]; rfl
  · rw [← take_snoc (z := K.zero kBun) e]; rfl
theorem o21 (i n : Int) (h0 : 0 ≤ i) (h1 : i ≤ 1000000000) (n0 : 0 < n) (n1 : n ≤ 1000000000) : CallStep Tryz.prog 21 [.one (.int .i64 i), .one (.int .i64 n)] [] (.one (.int .i64 (i.tmod n))) [] := by
  have e1 : IntKind.u64.wrap i = i := by rw [IntKind.wrap_u64]; omega
  have e2 : IntKind.u64.wrap n = n := by rw [IntKind.wrap_u64]; omega
  have e4 : IntKind.u64.wrap n ≠ 0 := by rw [e2]; omega
  refine CallStep.intro' (n := 11) (n0 := 0) (rs := [.tmp 4]) tb_ok Tryz.func21 (by kernel_rfl) rfl rfl rfl rfl rfl fun cx hcx => ?_; refine W.sO tb_ok ?_; refine W.sO tb_ok ?_; refine W.ret (endL1 (tb := tb) (n0 := 0) ?_ rfl rfl rfl); have e3 : IntKind.i64.wrap (i.tmod n) = i.tmod n := IntWalk.i64_in _ (by rw [Int.tmod_eq_emod_of_nonneg h0]; have := Int.emod_lt_of_pos i n0; have := Int.emod_nonneg i (show n ≠ 0 by omega); omega); show S.one (C.int .i64 (IntKind.i64.wrap ((IntKind.u64.wrap i).tmod (IntKind.u64.wrap n)))) = _; rw [e1, e2, e3]
def bunB (b : S62) : Bool := okI b.f0 && (okI b.f1 && (okI b.f2 && okI b.f3))
def wholeL (c : List S62) : Bool := decide (c.length ≤ 1024) && c.all bunB
theorem whole_at {c : List S62} {i : Nat} (h : i < c.length) (hp : bunB (J62 c i) = false) : c.all bunB = false := by
  rw [show J62 c (i : Int) = c[i] by unfold J62; rw [Int.toNat_natCast, List.getD_eq_getElem?_getD, List.getElem?_eq_getElem h]; rfl] at hp; rw [← Bool.not_eq_true, List.all_eq_true]; exact fun hx => by rw [hx _ (List.getElem_mem h)] at hp; cases hp
theorem whole_all {c : List S62} (h : ∀ i : Nat, i < c.length → bunB (J62 c i) = true) : c.all bunB = true := by
  rw [List.all_eq_true]; intro x hx; obtain ⟨i, hi, rfl⟩ := List.getElem_of_mem hx; have := h i hi; rw [show J62 c (i : Int) = c[i] by unfold J62; rw [Int.toNat_natCast, List.getD_eq_getElem?_getD, List.getElem?_eq_getElem hi]; rfl] at this; exact this
theorem atB (c : List S62) (i : Nat) (h : i < c.length) : (c.map f62).getD i (K.zero kBun) = f62 (J62 c i) := by
  rw [show J62 c (i : Int) = c[i] by unfold J62; rw [Int.toNat_natCast, List.getD_eq_getElem?_getD, List.getElem?_eq_getElem h]; rfl, List.getD_eq_getElem?_getD, List.getElem?_map, List.getElem?_eq_getElem h]; rfl
def slotB (b : S62) (k : Nat) : S24 := match k with
  | 0 => b.f0
  | 1 => b.f1
  | 2 => b.f2
  | _ => b.f3
def slotsB (b : S62) (k : Nat) : Bool := (List.range k).all fun j => okI (slotB b j)
theorem o24 (c : List S62) : CallStep Tryz.prog 24 [.one (.row 62 kBun (c.map f62))] [] (.one (.bool (wholeL c))) [] := by
  have hL : (c.map f62).length = c.length := List.length_map ..; refine CallStep.intro' (n := 30) (n0 := 0) (rs := [.tmp 2]) tb_ok Tryz.func24 (by kernel_rfl) rfl rfl rfl rfl rfl fun cx hcx => ?_; refine W.sO tb_ok ?_; refine W.seq ?_; refine W.sO tb_ok ?_; refine W.block (W.loop (fun i : Nat => ⟨[(3, .one (.int .i64 i)), (0, .one (.row 62 kBun (c.map f62)))], [], 30⟩) (fun i => c.length - i) (fun i => i ≤ c.length ∧ i ≤ 1025 ∧ ∀ j : Nat, j < i → bunB (J62 c j) = true) 0 ⟨Nat.zero_le _, Nat.zero_le _, fun j h => absurd h (Nat.not_lt_zero _)⟩ (Le.to [] hcx rfl ⟨rfl, rfl, rfl, rfl⟩) fun i hi => ?_); obtain ⟨hi, h1, hp⟩ := hi; refine W.seq ?_; refine W.sO tb_ok ?_
  have hcc : (bif decide ((i : Int) < ((c.map f62).length : Int)) then decide ((i : Int) ≤ 1024) else false) = decide (i < c.length ∧ i ≤ 1024) := by
    rw [hL]; by_cases h1 : i < c.length <;> by_cases h2 : i ≤ 1024 <;> simp [h1, h2] <;> omega
  refine W.if_ _ rfl (fun e => W.skip ?_) (fun e => W.exit ?_)
  case refine_2 =>
    have e1 := of_decide_eq_false (hcc.symm.trans e); refine W.sO tb_ok ?_; refine W.ret (endL1 (tb := tb) (n0 := 0) ?_ rfl rfl rfl); refine congrArg (fun b => S.one (C.bool b)) ?_; unfold wholeL
    by_cases h : c.length ≤ 1024
    · rw [decide_eq_true h, whole_all fun j hj => hp j (by omega)]; exact decide_eq_true (by omega)
    · rw [decide_eq_false h]; exact decide_eq_false (by omega)
  obtain ⟨e1, e2⟩ := of_decide_eq_true (hcc.symm.trans e); have hy := atB c i e1; refine W.seq (W.block ?_); refine W.sO tb_ok ?_; refine W.block (W.loop (fun k : Nat => ⟨[(4, .one (.int .i64 k)), (3, .one (.int .i64 i)), (0, .one (.row 62 kBun (c.map f62)))], [], 30⟩) (fun k => 4 - k) (fun k => k ≤ 4 ∧ slotsB (J62 c i) k = true) 0 ⟨Nat.zero_le _, rfl⟩ (Le.to [] hcx rfl ⟨rfl, rfl, rfl, rfl, rfl⟩) fun k hk => ?_); obtain ⟨hk, hs⟩ := hk; refine W.seq ?_; refine W.sO tb_ok ?_; refine W.if_ _ rfl (fun e3 => W.skip ?_) (fun e3 => W.exit ?_)
  case refine_2 =>
    have e4 : k = 4 := by have := of_decide_eq_false e3; omega
    subst e4; refine W.rO tb_ok ?_; refine ⟨i + 1, ⟨e1, by omega, fun j hj => ?_⟩, Le.to [] hcx rfl ⟨?_, rfl, rfl, rfl⟩, by omega⟩
    · rcases Nat.eq_or_lt_of_le (Nat.le_of_lt_succ hj) with h | h
      · rw [h]; rw [← hs]; show _ = ((List.range 4).all fun j => okI (slotB (J62 c i) j)); show _ = (okI _ && (okI _ && (okI _ && (okI _ && true)))); rw [Bool.and_true]; rfl
      · exact hp j h
    · show S.ren _ (S.one (.int .i64 (IntKind.i64.wrap (↑i + 1)))) = _; rw [IntWalk.i64_in _ (by omega)]; rfl
  have e4 : k < 4 := by have := of_decide_eq_true e3; omega
  have hnx : slotsB (J62 c i) (k + 1) = (slotsB (J62 c i) k && okI (slotB (J62 c i) k)) := by unfold slotsB; rw [List.range_succ, List.all_append]; simp
  refine W.seq (W.block ?_); have e5 : k = 0 ∨ k = 1 ∨ k = 2 ∨ k = 3 := by omega
  rcases e5 with rfl | rfl | rfl | rfl
  · have h38 := o38 (g24 ((c.map f62).getD i (K.zero kBun)).1); rw [show okI (g24 ((c.map f62).getD i (K.zero kBun)).1) = okI (slotB (J62 c i) 0) by rw [hy]; rfl] at h38; refine W.sO tb_ok ?_; refine W.if_ _ rfl (fun e6 => ?_) (fun e6 => W.skip ?_)
    · have e7 : okI (slotB (J62 c i) 0) = false := by rw [← Bool.not_eq_true']; exact e6
      have e8 : bunB (J62 c i) = false := by
        have e7 : okI (J62 c i).f0 = false := e7; unfold bunB; rw [e7]; simp
      rw [show wholeL c = false by unfold wholeL; rw [whole_at e1 e8, Bool.and_false]]; refine W.sO tb_ok ?_; exact W.ret (endL1 (tb := tb) (n0 := 0) rfl rfl rfl rfl)
    · have e7 : okI (slotB (J62 c i) 0) = true := by rw [← Bool.not_eq_false']; exact e6
      refine W.rO tb_ok ?_; refine ⟨1, ⟨by omega, by rw [hnx, hs, e7]; rfl⟩, Le.to [] hcx rfl ⟨?_, rfl, rfl, rfl, rfl⟩, by omega⟩; show S.ren _ (S.one (.int .i64 (IntKind.i64.wrap _))) = _; rw [IntWalk.i64_in _ (by omega)]; rfl
  · have h38 := o38 (g24 ((c.map f62).getD i (K.zero kBun)).2.1); rw [show okI (g24 ((c.map f62).getD i (K.zero kBun)).2.1) = okI (slotB (J62 c i) 1) by rw [hy]; rfl] at h38; refine W.sO tb_ok ?_; refine W.if_ _ rfl (fun e6 => ?_) (fun e6 => W.skip ?_)
    · have e7 : okI (slotB (J62 c i) 1) = false := by rw [← Bool.not_eq_true']; exact e6
      have e8 : bunB (J62 c i) = false := by
        have e7 : okI (J62 c i).f1 = false := e7; unfold bunB; rw [e7]; simp
      rw [show wholeL c = false by unfold wholeL; rw [whole_at e1 e8, Bool.and_false]]; refine W.sO tb_ok ?_; exact W.ret (endL1 (tb := tb) (n0 := 0) rfl rfl rfl rfl)
    · have e7 : okI (slotB (J62 c i) 1) = true := by rw [← Bool.not_eq_false']; exact e6
      refine W.rO tb_ok ?_; refine ⟨2, ⟨by omega, by rw [hnx, hs, e7]; rfl⟩, Le.to [] hcx rfl ⟨?_, rfl, rfl, rfl, rfl⟩, by omega⟩; show S.ren _ (S.one (.int .i64 (IntKind.i64.wrap _))) = _; rw [IntWalk.i64_in _ (by omega)]; rfl
  · have h38 := o38 (g24 ((c.map f62).getD i (K.zero kBun)).2.2.1); rw [show okI (g24 ((c.map f62).getD i (K.zero kBun)).2.2.1) = okI (slotB (J62 c i) 2) by rw [hy]; rfl] at h38; refine W.sO tb_ok ?_; refine W.if_ _ rfl (fun e6 => ?_) (fun e6 => W.skip ?_)
    · have e7 : okI (slotB (J62 c i) 2) = false := by rw [← Bool.not_eq_true']; exact e6
      have e8 : bunB (J62 c i) = false := by
        have e7 : okI (J62 c i).f2 = false := e7; unfold bunB; rw [e7]; simp
      rw [show wholeL c = false by unfold wholeL; rw [whole_at e1 e8, Bool.and_false]]; refine W.sO tb_ok ?_; exact W.ret (endL1 (tb := tb) (n0 := 0) rfl rfl rfl rfl)
    · have e7 : okI (slotB (J62 c i) 2) = true := by rw [← Bool.not_eq_false']; exact e6
      refine W.rO tb_ok ?_; refine ⟨3, ⟨by omega, by rw [hnx, hs, e7]; rfl⟩, Le.to [] hcx rfl ⟨?_, rfl, rfl, rfl, rfl⟩, by omega⟩; show S.ren _ (S.one (.int .i64 (IntKind.i64.wrap _))) = _; rw [IntWalk.i64_in _ (by omega)]; rfl
  · have h38 := o38 (g24 ((c.map f62).getD i (K.zero kBun)).2.2.2.1); rw [show okI (g24 ((c.map f62).getD i (K.zero kBun)).2.2.2.1) = okI (slotB (J62 c i) 3) by rw [hy]; rfl] at h38; refine W.sO tb_ok ?_; refine W.if_ _ rfl (fun e6 => ?_) (fun e6 => W.skip ?_)
    · have e7 : okI (slotB (J62 c i) 3) = false := by rw [← Bool.not_eq_true']; exact e6
      have e8 : bunB (J62 c i) = false := by
        have e7 : okI (J62 c i).f3 = false := e7; unfold bunB; rw [e7]; simp
      rw [show wholeL c = false by unfold wholeL; rw [whole_at e1 e8, Bool.and_false]]; refine W.sO tb_ok ?_; exact W.ret (endL1 (tb := tb) (n0 := 0) rfl rfl rfl rfl)
    · have e7 : okI (slotB (J62 c i) 3) = true := by rw [← Bool.not_eq_false']; exact e6
      refine W.rO tb_ok ?_; refine ⟨4, ⟨by omega, by rw [hnx, hs, e7]; rfl⟩, Le.to [] hcx rfl ⟨?_, rfl, rfl, rfl, rfl⟩, by omega⟩; show S.ren _ (S.one (.int .i64 (IntKind.i64.wrap _))) = _; rw [IntWalk.i64_in _ (by omega)]; rfl
end Go.Den
end
section
-- the texts that this claim needs, out of this session's and its print's (wip/shrink.py)
namespace Go.Den
open Go Go.RowKit Go.Proofs Go.Proofs.YtibfkkjkahpobaaGreatW.PrintWords Go.Proofs.YtibfkkjkahpobaaGreat.PDag
def eqI (y x : S24) : Bool := (y.f0 == x.f0 && (y.f1 == x.f1 && (y.f2 == x.f2 && (y.f3 == x.f3 && (y.f4 == x.f4 && (y.f5.toList == x.f5.toList && true))))))
theorem eqI_eq {y x : S24} (h : eqI y x = true) : y = x := by
  unfold eqI at h; simp only [Bool.and_eq_true, beq_iff_eq, and_true] at h; obtain ⟨h0, h1, h2, h3, h4, h5⟩ := h; obtain ⟨y0, y1, y2, y3, y4, y5⟩ := y; obtain ⟨x0, x1, x2, x3, x4, x5⟩ := x; simp only at h0 h1 h2 h3 h4 h5; rw [ByteArray.toList_eq, ByteArray.toList_eq] at h5; obtain ⟨d⟩ := y5; obtain ⟨e⟩ := x5; have : d = e := Array.toList_inj.1 h5; subst h0 h1 h2 h3 h4 this; rfl
theorem eqI_self (x : S24) : eqI x x = true := by unfold eqI; simp
instance : BEq S24 := ⟨eqI⟩
instance : ReflBEq S24 := ⟨eqI_self _⟩
instance : LawfulBEq S24 := ⟨fun h => eqI_eq h⟩
def cntB (l : List S24) (i : Nat) : Nat := (l.take i).count (J24 l i)
def occ (S : List (Nat × Nat × S24)) (x : S24) : List (Nat × Nat) := S.filterMap fun t => if t.2.2 == x then some (t.1, t.2.1) else none
theorem occ_append (S T : List (Nat × Nat × S24)) (x : S24) : occ (S ++ T) x = occ S x ++ occ T x := by unfold occ; rw [List.filterMap_append]
theorem occ_one (t : Nat × Nat × S24) (x : S24) : occ [t] x = if t.2.2 == x then [(t.1, t.2.1)] else [] := by
  unfold occ; rw [List.filterMap_cons]; split <;> rename_i h
  · split at h
    · cases h
    · rename_i hx; rw [if_neg hx]; rfl
  · split at h
    · rename_i hx; rw [if_pos hx]; obtain rfl := Option.some.inj h; rfl
    · cases h
def findK (l : List S24) (a : List Int) (x : S24) : Nat → Nat → Nat
  | k, 0 => k
  | k, d + 1 => if rd a (k : Int) < 0 ∧ eqI (J24 l k) x = true then k else findK l a x (k + 1) d
def pgStep (l : List S24) (a : List Int) (t : Nat × Nat × S24) : Option (List Int) :=
  if findK l a t.2.2 0 l.length = l.length ∨ mayOp t.2.2.f0 (t.2.1 : Int) = false then none else some (a.set (findK l a t.2.2 0 l.length) (t.1 : Int))
def pgRun (l : List S24) (S : List (Nat × Nat × S24)) : Option (List Int) := S.foldlM (pgStep l) (List.replicate l.length (-1))
theorem pgRun_snoc (l : List S24) (S : List (Nat × Nat × S24)) (t : Nat × Nat × S24) : pgRun l (S ++ [t]) = (pgRun l S).bind fun a => pgStep l a t := by
  unfold pgRun; rw [List.foldlM_append]
  cases S.foldlM (pgStep l) (List.replicate l.length (-1)) with
  | none => rfl
  | some a => show (List.foldlM (pgStep l) a [t]) = pgStep l a t; rw [List.foldlM_cons]; cases pgStep l a t <;> rfl
theorem findK_spec (l : List S24) (a : List Int) (x : S24) : ∀ (d k : Nat), k ≤ findK l a x k d ∧ findK l a x k d ≤ k + d ∧ (∀ j, k ≤ j → j < findK l a x k d → ¬ (rd a (j : Int) < 0 ∧ J24 l j = x)) ∧ (findK l a x k d < k + d → rd a ((findK l a x k d : Nat) : Int) < 0 ∧ J24 l (findK l a x k d : Nat) = x)
  | 0, k => ⟨Nat.le_refl _, Nat.le_refl _, fun j h1 h2 => by unfold findK at h2; omega, fun h => by unfold findK at h; omega⟩
  | d + 1, k => by
    unfold findK; split
    · rename_i h
      exact ⟨Nat.le_refl _, by omega, fun j h1 h2 => by omega, fun _ => ⟨h.1, eqI_eq h.2⟩⟩
    · rename_i h
      obtain ⟨h1, h2, h3, h4⟩ := findK_spec l a x d (k + 1); refine ⟨by omega, by omega, fun j j1 j2 => ?_, fun hl => h4 (by omega)⟩; rcases Nat.eq_or_lt_of_le j1 with rfl | j1
      · exact fun hx => h ⟨hx.1, by rw [hx.2]; exact eqI_self x⟩
      · exact h3 j j1 j2
def aOf (l : List S24) (S : List (Nat × Nat × S24)) : List Int := (List.range l.length).map fun i : Nat => match (occ S (J24 l i))[cntB l i]? with
  | some p => (p.1 : Int)
  | none => -1
theorem aOf_len (l : List S24) (S : List (Nat × Nat × S24)) : (aOf l S).length = l.length := by unfold aOf; rw [List.length_map, List.length_range]
theorem aOf_at (l : List S24) (S : List (Nat × Nat × S24)) (i : Nat) (hi : i < l.length) : rd (aOf l S) (i : Int) = match (occ S (J24 l i))[cntB l i]? with
    | some p => (p.1 : Int)
    | none => -1 := by
  rw [rd_nat _ _ (by rw [aOf_len]; exact hi)]; unfold aOf; rw [List.getElem_map, List.getElem_range]
theorem aOf_neg (l : List S24) (S : List (Nat × Nat × S24)) (i : Nat) (hi : i < l.length) : rd (aOf l S) (i : Int) < 0 ↔ (occ S (J24 l i)).length ≤ cntB l i := by
  rw [aOf_at l S i hi]
  cases h : (occ S (J24 l i))[cntB l i]? with
  | none => exact ⟨fun _ => List.getElem?_eq_none_iff.1 h, fun _ => by show (-1 : Int) < 0; omega⟩
  | some p =>
    have := (List.getElem?_eq_some_iff.1 h).1; exact ⟨fun h2 => by have h2 : (p.1 : Int) < 0 := h2; omega, fun h2 => by omega⟩
theorem take_succ24 (l : List S24) (i : Nat) (hi : i < l.length) : l.take (i + 1) = l.take i ++ [J24 l i] := by
  rw [List.take_succ_eq_append_getElem hi, rd_at l i hi]
theorem cntB_lt (l : List S24) {i j : Nat} (hij : i < j) (hj : j < l.length) (he : J24 l i = J24 l j) : cntB l i < cntB l j := by
  unfold cntB; have h1 : (l.take (i + 1)).count (J24 l j) ≤ (l.take j).count (J24 l j) := List.Sublist.count_le _ (List.take_sublist_take_left hij); rw [take_succ24 l i (by omega), List.count_append, he] at h1; have h2 : List.count (J24 l j) [J24 l j] = 1 := by simp
  rw [he]; omega
theorem cntB_count (l : List S24) (i : Nat) (hi : i < l.length) : cntB l i < l.count (J24 l i) := by
  unfold cntB; have h1 : (l.take (i + 1)).count (J24 l i) ≤ l.count (J24 l i) := List.Sublist.count_le _ (List.take_sublist _ _); rw [take_succ24 l i hi, List.count_append] at h1; have h2 : List.count (J24 l i) [J24 l i] = 1 := by simp
  omega
theorem cntB_ex (l : List S24) (x : S24) (m : Nat) : ∀ n, n ≤ l.length → m < (l.take n).count x → ∃ k, k < n ∧ J24 l k = x ∧ cntB l k = m
  | 0, _, h => by simp at h
  | n + 1, hn, h => by
    rw [take_succ24 l n (by omega), List.count_append] at h
    by_cases h1 : m < (l.take n).count x
    · obtain ⟨k, h2, h3⟩ := cntB_ex l x m n (by omega) h1; exact ⟨k, by omega, h3⟩
    · by_cases he : J24 l n = x
      · subst he; have h2 : List.count (J24 l n) [J24 l n] = 1 := by simp
        exact ⟨n, Nat.lt_succ_self n, rfl, by unfold cntB; omega⟩
      · have h2 : List.count x [J24 l n] = 0 := List.count_eq_zero.2 (by simpa using fun h => he h.symm); omega
theorem pg_step (l : List S24) (S : List (Nat × Nat × S24)) (t : Nat × Nat × S24) : pgStep l (aOf l S) t = if (occ S t.2.2).length < l.count t.2.2 ∧ mayOp t.2.2.f0 (t.2.1 : Int) = true then some (aOf l (S ++ [t])) else none := by
  obtain ⟨n, s, x⟩ := t; unfold pgStep; simp only; obtain ⟨h1, h2, h3, h4⟩ := findK_spec l (aOf l S) x l.length 0; generalize findK l (aOf l S) x 0 l.length = k at h1 h2 h3 h4 ⊢; rw [Nat.zero_add] at h2 h4
  by_cases hm : mayOp x.f0 (s : Int) = true
  · by_cases hc : (occ S x).length < l.count x
    · obtain ⟨k', k1, k2, k3⟩ := cntB_ex l x (occ S x).length l.length (Nat.le_refl _) (by rw [List.take_length]; exact hc); have hneg : rd (aOf l S) (k' : Int) < 0 := (aOf_neg l S k' k1).2 (by rw [k2, k3]; exact Nat.le_refl _); have hk : k ≤ k' := Nat.le_of_not_lt fun h => h3 k' (Nat.zero_le _) h ⟨hneg, k2⟩
      have hkk : k = k' := by
        rcases Nat.eq_or_lt_of_le hk with h | h
        · exact h
        · obtain ⟨q1, q2⟩ := h4 (by omega); have q3 := (aOf_neg l S k (by omega)).1 q1; have q4 := cntB_lt l h k1 (q2.trans k2.symm); rw [q2] at q3; omega
      subst hkk; rw [if_neg (by rw [hm]; intro h; rcases h with h | h; omega; cases h), if_pos ⟨hc, hm⟩]; congr 1; refine ext_rd _ _ l.length (by rw [List.length_set, aOf_len]) (aOf_len _ _) fun i hi => ?_
      by_cases hik : i = k
      · subst hik; rw [rd_set_same _ _ _ (by rw [aOf_len]; exact hi), aOf_at _ _ _ hi, occ_append, occ_one, k2, k3, if_pos (beq_self_eq_true x), List.getElem?_append_right (Nat.le_refl _), Nat.sub_self]; rfl
      · rw [rd_set_other _ _ _ _ (by omega) (by omega), aOf_at _ _ _ hi, aOf_at _ _ _ hi, occ_append, occ_one]
        by_cases hx : x = J24 l i
        · rw [if_pos (by rw [hx]; exact beq_self_eq_true _)]
          have hne : cntB l i ≠ (occ S (J24 l i)).length := fun h => by
            rcases Nat.lt_or_gt_of_ne hik with h5 | h5
            · have := cntB_lt l h5 k1 (hx.symm.trans k2.symm); rw [← hx] at h; omega
            · have := cntB_lt l h5 hi (k2.trans hx); rw [← hx] at h; omega
          rcases Nat.lt_or_gt_of_ne hne with h5 | h5
          · rw [List.getElem?_append_left h5]
          · rw [List.getElem?_append_right (by omega), List.getElem?_eq_none (by omega : (occ S (J24 l i)).length ≤ cntB l i), List.getElem?_eq_none (by simp; omega)]
        · rw [if_neg (by simpa using hx), List.append_nil]
    · have hkl : k = l.length := by
        rcases Nat.eq_or_lt_of_le h2 with h | h
        · exact h
        · obtain ⟨q1, q2⟩ := h4 h; have q3 := (aOf_neg l S k h).1 q1; have q4 := cntB_count l k h; rw [q2] at q3 q4; omega
      rw [if_pos (.inl hkl), if_neg fun h => hc h.1]
  · rw [if_pos (.inr (by simpa using hm)), if_neg fun h => hm h.2]
open Classical in
theorem pg_run (l : List S24) (S : List (Nat × Nat × S24)) : ∀ n, n ≤ S.length → pgRun l (S.take n) = if (∀ t ∈ S.take n, mayOp t.2.2.f0 (t.2.1 : Int) = true) ∧ ∀ x, (occ (S.take n) x).length ≤ l.count x then some (aOf l (S.take n)) else none
  | 0, _ => by
    rw [List.take_zero, if_pos ⟨(fun t h => by simp at h), fun x => Nat.zero_le _⟩]; unfold pgRun; rw [List.foldlM_nil]; show some _ = some _; congr 1; refine ext_rd _ _ l.length (List.length_replicate) (aOf_len _ _) fun i hi => ?_; rw [rd_replicate _ _ _ hi, aOf_at _ _ _ hi]
    rfl
  | n + 1, hn => by
    rw [List.take_succ_eq_append_getElem (by omega), pgRun_snoc, pg_run l S n (by omega)]; generalize S.take n = T; generalize S[n] = t
    by_cases h : (∀ t ∈ T, mayOp t.2.2.f0 (t.2.1 : Int) = true) ∧ ∀ x, (occ T x).length ≤ l.count x
    · rw [if_pos h]; show pgStep l (aOf l T) t = _; rw [pg_step]
      by_cases h2 : (occ T t.2.2).length < l.count t.2.2 ∧ mayOp t.2.2.f0 (t.2.1 : Int) = true
      · have hc : (∀ u ∈ T ++ [t], mayOp u.2.2.f0 (u.2.1 : Int) = true) ∧ ∀ x, (occ (T ++ [t]) x).length ≤ l.count x := by
          refine ⟨fun u hu => ?_, fun x => ?_⟩
          · rcases List.mem_append.1 hu with hu | hu
            · exact h.1 u hu
            · rw [List.mem_singleton.1 hu]; exact h2.2
          · rw [occ_append, occ_one, List.length_append]; split
            · rename_i hx
              have hx : t.2.2 = x := eq_of_beq hx; rw [← hx]; have := h2.1; simp only [List.length_singleton]; omega
            · simpa using h.2 x
        rw [if_pos h2, if_pos hc]
      · have hc : ¬ ((∀ u ∈ T ++ [t], mayOp u.2.2.f0 (u.2.1 : Int) = true) ∧ ∀ x, (occ (T ++ [t]) x).length ≤ l.count x) := fun h3 => h2 ⟨by
          have := h3.2 t.2.2; rw [occ_append, occ_one, List.length_append, if_pos (beq_self_eq_true _)] at this; simp only [List.length_singleton] at this
          omega, h3.1 t (by simp)⟩
        rw [if_neg h2, if_neg hc]
    · have hc : ¬ ((∀ u ∈ T ++ [t], mayOp u.2.2.f0 (u.2.1 : Int) = true) ∧ ∀ x, (occ (T ++ [t]) x).length ≤ l.count x) := fun h3 => h ⟨fun u hu => h3.1 u (by simp [hu]), fun x => by
        have := h3.2 x; rw [occ_append, List.length_append] at this
        omega⟩
      rw [if_neg h, if_neg hc]; rfl
theorem occ_count (S : List (Nat × Nat × S24)) (x : S24) : (occ S x).length = (S.map fun t => t.2.2).count x := by
  induction S with
  | nil => rfl
  | cons t S ih =>
    rw [show t :: S = [t] ++ S from rfl, occ_append, occ_one, List.length_append, ih, List.map_append, List.count_append]; congr 1
    by_cases h : t.2.2 = x
    · rw [if_pos (by simpa using h)]; simp [h]
    · rw [if_neg (by simpa using h)]; simp [h]
theorem count_same : ∀ (l m : List S24), (∀ x, l.count x ≤ m.count x) → l.length = m.length → ∀ x, l.count x = m.count x
  | [], m, h, hl, x => by
    obtain rfl : m = [] := List.length_eq_zero_iff.1 hl.symm
    rfl
  | y :: l, m, h, hl, x => by
    have hy : y ∈ m := List.count_pos_iff.1 (by have := h y; rw [List.count_cons_self] at this; omega); have hp := List.perm_cons_erase hy; have he : ∀ z, m.count z = (y :: m.erase y).count z := fun z => hp.count_eq z
    have ih := count_same l (m.erase y) (fun z => by
      have h1 := h z; rw [he z, List.count_cons, List.count_cons] at h1
      omega) (by have := hp.length_eq; simp only [List.length_cons] at this hl; omega) x
    rw [he x, List.count_cons, List.count_cons, ih]
theorem occ_mem {S : List (Nat × Nat × S24)} {x : S24} {p : Nat × Nat} (h : p ∈ occ S x) : (p.1, p.2, x) ∈ S := by
  unfold occ at h; obtain ⟨t, ht, hq⟩ := List.mem_filterMap.1 h; split at hq
  · rename_i hx
    obtain rfl := Option.some.inj hq; rw [← eq_of_beq hx]; exact ht
  · cases hq
theorem mem_occ {S : List (Nat × Nat × S24)} {t : Nat × Nat × S24} (h : t ∈ S) : (t.1, t.2.1) ∈ occ S t.2.2 := by
  unfold occ; exact List.mem_filterMap.2 ⟨t, h, by rw [if_pos (beq_self_eq_true _)]⟩
def posOf (l : List S24) (S : List (Nat × Nat × S24)) (i : Nat) : Nat × Nat := ((occ S (J24 l i))[cntB l i]?).getD (0, 0)
def fitsR (l : List S24) (S : List (Nat × Nat × S24)) : Bool := match pgRun l S with
  | none => false
  | some a => ((List.range l.length).all fun i : Nat => decide (0 ≤ rd a (i : Int))) && (edges l).all fun e => decide (rd a e.f0 + e.f2 ≤ rd a e.f1)
def fitsP (l : List S24) (S : List (Nat × Nat × S24)) : Bool :=
  ((List.range l.length).all fun i => decide (cntB l i < (occ S (J24 l i)).length)) && (S.length == l.length && (((List.range l.length).all fun i : Nat => mayOp (J24 l i).f0 ((posOf l S i).2 : Int)) && (edges l).all fun e => decide (e.f2 ≤ ((posOf l S e.f1.toNat).1 : Int) - ((posOf l S e.f0.toNat).1 : Int))))
theorem pg_all (l : List S24) (S : List (Nat × Nat × S24)) (a : List Int) : pgRun l S = some a ↔ ((∀ t ∈ S, mayOp t.2.2.f0 (t.2.1 : Int) = true) ∧ ∀ x, (occ S x).length ≤ l.count x) ∧ a = aOf l S := by
  have h := pg_run l S S.length (Nat.le_refl _); rw [List.take_length] at h; rw [h]; split
  · rename_i hc
    exact Iff.intro (fun h => ⟨hc, (Option.some.inj h).symm⟩) (fun h => by rw [h.2])
  · rename_i hc
    exact Iff.intro (fun h => by cases h) (fun h => absurd h.1 hc)
theorem aOf_pos (l : List S24) (S : List (Nat × Nat × S24)) (i : Nat) (hi : i < l.length) (h : cntB l i < (occ S (J24 l i)).length) : rd (aOf l S) (i : Int) = ((posOf l S i).1 : Int) := by
  rw [aOf_at l S i hi, posOf, List.getElem?_eq_getElem h]; rfl
theorem count_le_of {l : List S24} {S : List (Nat × Nat × S24)} (h : ∀ i : Nat, i < l.length → cntB l i < (occ S (J24 l i)).length) (x : S24) : l.count x ≤ (occ S x).length := by
  refine Nat.le_of_not_lt fun hx => ?_; obtain ⟨k, k1, k2, k3⟩ := cntB_ex l x (occ S x).length l.length (Nat.le_refl _) (by rw [List.take_length]; exact hx); have := h k k1; rw [k2, k3] at this; omega
theorem edges_in {l : List S24} {e : S100} (he : e ∈ edges l) : ∃ i t : Nat, e.f0 = (i : Int) ∧ e.f1 = (t : Int) ∧ i < l.length ∧ t < l.length := by
  obtain ⟨i, t, h1, h2, h3, h4⟩ := edges_range l _ _ e he; exact ⟨i, t, h1, h2, by omega, h4⟩
theorem edges_same {l : List S24} {S : List (Nat × Nat × S24)} (h : ∀ i : Nat, i < l.length → cntB l i < (occ S (J24 l i)).length) : ((edges l).all fun e => decide (rd (aOf l S) e.f0 + e.f2 ≤ rd (aOf l S) e.f1)) = ((edges l).all fun e => decide (e.f2 ≤ ((posOf l S e.f1.toNat).1 : Int) - ((posOf l S e.f0.toNat).1 : Int))) := by
  rw [Bool.eq_iff_iff, List.all_eq_true, List.all_eq_true]; refine forall_congr' fun e => forall_congr' fun he => ?_; obtain ⟨i, t, h1, h2, h3, h4⟩ := edges_in he; rw [h1, h2, aOf_pos l S i h3 (h i h3), aOf_pos l S t h4 (h t h4), Int.toNat_natCast, Int.toNat_natCast, decide_eq_true_iff, decide_eq_true_iff]; omega
theorem fits_same (l : List S24) (S : List (Nat × Nat × S24)) : fitsR l S = fitsP l S := by
  rw [Bool.eq_iff_iff]; constructor
  · intro h; unfold fitsR at h; split at h
    · cases h
    · rename_i a ha
      obtain ⟨⟨h1, h2⟩, rfl⟩ := (pg_all l S a).1 ha; simp only [Bool.and_eq_true, List.all_eq_true, List.mem_range, decide_eq_true_eq] at h
      have hd : ∀ i : Nat, i < l.length → cntB l i < (occ S (J24 l i)).length := fun i hi => Nat.lt_of_not_le fun hx => by
        have := (aOf_neg l S i hi).2 hx; have := h.1 i hi; omega
      have hcount : ∀ x, l.count x = (S.map fun t => t.2.2).count x := fun x => by
        have := h2 x; have := count_le_of hd x; rw [← occ_count]; omega
      have hlen := (List.perm_iff_count.2 hcount).length_eq; rw [List.length_map] at hlen; unfold fitsP; rw [← edges_same hd]; simp only [Bool.and_eq_true, List.all_eq_true, List.mem_range, decide_eq_true_eq, beq_iff_eq]; refine ⟨hd, hlen.symm, fun i hi => ?_, h.2⟩; unfold posOf; rw [List.getElem?_eq_getElem (hd i hi)]; exact h1 _ (occ_mem (List.getElem_mem (hd i hi)))
  · intro h; unfold fitsP at h; simp only [Bool.and_eq_true] at h; obtain ⟨h1, h2, h3, h4⟩ := h; simp only [List.all_eq_true, List.mem_range, decide_eq_true_eq] at h1 h3; have h2 : S.length = l.length := eq_of_beq h2; have hcount := count_same l (S.map fun t => t.2.2) (fun x => by rw [← occ_count]; exact count_le_of h1 x) (by rw [List.length_map]; exact h2.symm); have ha := (pg_all l S (aOf l S)).2 ⟨⟨fun t ht => ?_, fun x => by rw [occ_count, hcount]; exact Nat.le_refl _⟩, rfl⟩
    · unfold fitsR; rw [ha]; simp only [Bool.and_eq_true]; refine ⟨?_, (edges_same h1).trans h4⟩; simp only [List.all_eq_true, List.mem_range, decide_eq_true_eq]; exact fun i hi => Int.not_lt.1 fun hx => by have := (aOf_neg l S i hi).1 hx; have := h1 i hi; omega
    · obtain ⟨j, hj, he⟩ := List.getElem_of_mem (mem_occ ht); obtain ⟨k, k1, k2, k3⟩ := cntB_ex l t.2.2 j l.length (Nat.le_refl _) (by rw [List.take_length, hcount, ← occ_count]; exact hj); have := h3 k k1; unfold posOf at this; rw [k2, k3, List.getElem?_eq_getElem hj, he] at this; exact this
end Go.Den
end
