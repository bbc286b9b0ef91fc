import Derived.Test.YtibfkkjkahpobaaMx15
import Derived.Test.YtibfkkjkahpobaaMx16
import Derived.Test.YtibfkkjkahpobaaMx25
import Derived.Test.YtibfkkjkahpobaaMx28
import Derived.Test.YtibfkkjkahpobaaMx35
import Derived.Test.YtibfkkjkahpobaaMx33
import Derived.Test.YtibfkkjkahpobaaMx30
import Derived.Test.YtibfkkjkahpobaaMx22
set_option linter.unusedVariables false
set_option linter.unusedSimpArgs false
set_option maxHeartbeats 8000000
set_option maxRecDepth 100000
open Go.RowKit Go.Proofs.YtibfkkjkahpobaaW.PrintWords Go.Proofs.YtibfkkjkahpobaaW.PrintLast Go.Proofs.YtibfkkjkahpobaaW.PrintMore
namespace Go.Proofs.Ytibfkkjkahpobaa.PDag
section
attribute [local go_sem] max2_int min2_int max_two min_two max_three min_three max_four min_four
end
section
attribute [local go_sem] Oper.semAt_some
def sched_Of.f (k : Nat) (lb : List ByteArray) (l : List S24) (a2 a3 a4 a5 a6 : Int) (a7 : ByteArray) : Option (List S81 × Int) :=
  if lb.isEmpty = true ∧ l.length ≤ 1000000000 then some (if mayBlk l ⟨a2, a3, a4, a5, a6, a7⟩ = true then (bunF l ⟨a2, a3, a4, a5, a6, a7⟩, 0) else ([], 1)) else none
theorem mayBlk_parts {l : List S24} {x : S24} (h : mayBlk l x = true) : okA l ∧ l.length ≤ 200 ∧ 0 ≤ x.f0 ∧ x.f0 ≤ 33 := by
  unfold mayBlk at h
  rw [Bool.and_eq_true] at h
  have ho : okA l := fun y hy => plain_ok (List.all_eq_true.1 h.1 y hy)
  refine ⟨ho, ?_⟩
  split at h
  · rename_i hz
    have h2 := of_decide_eq_true h.2
    unfold zeroI at hz
    simp only [Bool.and_eq_true, beq_iff_eq] at hz
    exact ⟨h2, by omega⟩
  · have h2 := h.2
    simp only [Bool.and_eq_true, decide_eq_true_eq] at h2
    have h3 := okI_op h2.1
    exact ⟨by omega, h3⟩
theorem sched_Of.calls (k : Nat) (A0_0 : Option Addr) (c0_0 : Nat) (l0_0 : List ByteArray) (A0_1 : Option Addr) (c0_1 : Nat) (l0_1 : List S24) (a0_2 a0_3 a0_4 a0_5 a0_6 : Int) (a0_7 : ByteArray) (r1 : List S81) (r2 : Int) (w : World)
    (hr0_0 : Kd.C Kd.string w A0_0 l0_0.length l0_0) (hc0_0 : l0_0.length ≤ c0_0) (hr0_1 : Kd.C k24 w A0_1 l0_1.length l0_1) (hc0_1 : l0_1.length ≤ c0_1) (h : sched_Of.f k l0_0 l0_1 a0_2 a0_3 a0_4 a0_5 a0_6 a0_7 = some (r1, r2)) :
    Calls Try.prog 51 #[.agg #[.slice A0_0 l0_0.length c0_0, .slice A0_1 l0_1.length c0_1, .int .i64 a0_2, .int .i64 a0_3, .int .i64 a0_4, .int .i64 a0_5, .int .i64 a0_6, .string a0_7]] w fun e w' => ∃ v0_ : Value, e = .returned (.tuple #[v0_, .int .i64 r2]) ∧ Kd.R k81 81 w' w.heap.size (fun _ => True) v0_ r1 ∧ Below w.heap.size w w' := by
  have hu73 := Try.underlying73
  have hu24 := Try.underlying24
  unfold sched_Of.f at h
  split at h
  · rename_i hg
    obtain ⟨hlb, hlen⟩ := hg
    have hl0 : l0_0 = [] := by simpa using hlb
    subst hl0
    have h := Option.some.inj h
    have HL := aM_ hr0_1
    generalize hx : (⟨a0_2, a0_3, a0_4, a0_5, a0_6, a0_7⟩ : S24) = x at h
    have e2 : a0_2 = x.f0 := by rw [← hx]
    have e3 : a0_3 = x.f1 := by rw [← hx]
    have e4 : a0_4 = x.f2 := by rw [← hx]
    have e5 : a0_5 = x.f3 := by rw [← hx]
    have e6 : a0_6 = x.f4 := by rw [← hx]
    have e7 : a0_7 = x.f5 := by rw [← hx]
    clear hx
    subst e2 e3 e4 e5 e6 e7
    have HM := aM_ (fun W gx hg hC => block_May.calls0 gx A0_0 c0_0 A0_1 c0_1 1 l0_1 x W hg hC hc0_1 hlen)
    clear hr0_0 hr0_1 hlb
    cases hm : mayBlk l0_1 x with
    | false =>
      rw [hm] at h HM
      simp only [Bool.false_eq_true, if_false, Prod.mk.injEq] at h
      obtain ⟨rfl, rfl⟩ := h
      clear hm
      rw [show ([] : List ByteArray).length = 0 from rfl]
      go_enter Try.func51, Try.ntmps51
      go_wp2_with (first | ((with_reducible refine gate_dst (N := 1) rfl ?_); refine bX_ (N := 1) (cs := #[.slice A0_0 0 c0_0, .slice A0_1 l0_1.length c0_1, .int .i64 x.f0, .int .i64 x.f1, .int .i64 x.f2, .int .i64 x.f3, .int .i64 x.f4, .string x.f5]) (t := 73) ?_; intro gb hgb w1 hbox hb; have x0 : w1.cell? ⟨gb, 0, none⟩ = some (.slice A0_0 0 c0_0) := (bC_ hbox 0).trans rfl; have x1 : w1.cell? ⟨gb, 1, none⟩ = some (.slice A0_1 l0_1.length c0_1) := (bC_ hbox 1).trans rfl; have x2 : w1.cell? ⟨gb, 2, none⟩ = some (.int .i64 x.f0) := (bC_ hbox 2).trans rfl; have x3 : w1.cell? ⟨gb, 3, none⟩ = some (.int .i64 x.f1) := (bC_ hbox 3).trans rfl; have x4 : w1.cell? ⟨gb, 4, none⟩ = some (.int .i64 x.f2) := (bC_ hbox 4).trans rfl; have x5 : w1.cell? ⟨gb, 5, none⟩ = some (.int .i64 x.f3) := (bC_ hbox 5).trans rfl; have x6 : w1.cell? ⟨gb, 6, none⟩ = some (.int .i64 x.f4) := (bC_ hbox 6).trans rfl; have x7 : w1.cell? ⟨gb, 7, none⟩ = some (.string x.f5) := (bC_ hbox 7).trans rfl; have BX := aM_ hbox; have HB := aM_ hb; have HAL := aM_ (bA_ (Below.refl w1.heap.size w1) (.cells #[.slice A0_0 0 c0_0, .slice A0_1 l0_1.length c0_1, .int .i64 x.f0, .int .i64 x.f1, .int .i64 x.f2, .int .i64 x.f3, .int .i64 x.f4, .string x.f5] 73)); have HNB := aM_ (blk_new w1 (.cells #[.slice A0_0 0 c0_0, .slice A0_1 l0_1.length c0_1, .int .i64 x.f0, .int .i64 x.f1, .int .i64 x.f2, .int .i64 x.f3, .int .i64 x.f4, .string x.f5] 73)); have HB15 := aM_ (hb.trans (HAL.out.mono hb.size)); clear hbox hb hgb) | (go_at_call 83; refine (HM.out _ w1.heap.size HNB.out (Kd.C_below HL.out HB15.out)).mono ?_; rintro e w3 ⟨rfl, hb⟩; have HB2 := aM_ (HB15.out.trans (hb.mono HB15.out.size)); have BX2 := aM_ (kB_ (kB_ BX.out HAL.out) hb); clear hb x0 x1 x2 x3 x4 x5 x6 x7))
      go_ret2
      exact ⟨_, rfl, Kd.R_nil _ _ _ _ _, HB2.out⟩
    | true =>
      rw [hm] at h HM
      simp only [if_true, Prod.mk.injEq] at h
      obtain ⟨rfl, rfl⟩ := h
      obtain ⟨ho, hn, hx0⟩ := mayBlk_parts hm
      have HO := aM_ ho
      clear hm ho
      rw [show ([] : List ByteArray).length = 0 from rfl]
      go_enter Try.func51, Try.ntmps51
      go_wp2_with (first | ((with_reducible refine gate_dst (N := 1) rfl ?_); refine bX_ (N := 1) (cs := #[.slice A0_0 0 c0_0, .slice A0_1 l0_1.length c0_1, .int .i64 x.f0, .int .i64 x.f1, .int .i64 x.f2, .int .i64 x.f3, .int .i64 x.f4, .string x.f5]) (t := 73) ?_; intro gb hgb w1 hbox hb; have x0 : w1.cell? ⟨gb, 0, none⟩ = some (.slice A0_0 0 c0_0) := (bC_ hbox 0).trans rfl; have x1 : w1.cell? ⟨gb, 1, none⟩ = some (.slice A0_1 l0_1.length c0_1) := (bC_ hbox 1).trans rfl; have x2 : w1.cell? ⟨gb, 2, none⟩ = some (.int .i64 x.f0) := (bC_ hbox 2).trans rfl; have x3 : w1.cell? ⟨gb, 3, none⟩ = some (.int .i64 x.f1) := (bC_ hbox 3).trans rfl; have x4 : w1.cell? ⟨gb, 4, none⟩ = some (.int .i64 x.f2) := (bC_ hbox 4).trans rfl; have x5 : w1.cell? ⟨gb, 5, none⟩ = some (.int .i64 x.f3) := (bC_ hbox 5).trans rfl; have x6 : w1.cell? ⟨gb, 6, none⟩ = some (.int .i64 x.f4) := (bC_ hbox 6).trans rfl; have x7 : w1.cell? ⟨gb, 7, none⟩ = some (.string x.f5) := (bC_ hbox 7).trans rfl; have BX := aM_ hbox; have HB := aM_ hb; have HAL := aM_ (bA_ (Below.refl w1.heap.size w1) (.cells #[.slice A0_0 0 c0_0, .slice A0_1 l0_1.length c0_1, .int .i64 x.f0, .int .i64 x.f1, .int .i64 x.f2, .int .i64 x.f3, .int .i64 x.f4, .string x.f5] 73)); have HNB := aM_ (blk_new w1 (.cells #[.slice A0_0 0 c0_0, .slice A0_1 l0_1.length c0_1, .int .i64 x.f0, .int .i64 x.f1, .int .i64 x.f2, .int .i64 x.f3, .int .i64 x.f4, .string x.f5] 73)); have HB15 := aM_ (hb.trans (HAL.out.mono hb.size)); clear hbox hb hgb) | (go_at_call 83; refine (HM.out _ w1.heap.size HNB.out (Kd.C_below HL.out HB15.out)).mono ?_; rintro e w3 ⟨rfl, hb⟩; have HB2 := aM_ (HB15.out.trans (hb.mono HB15.out.size)); have BX2 := aM_ (kB_ (kB_ BX.out HAL.out) hb); clear hb x0 x1 x2 x3 x4 x5 x6 x7; have y0 : w3.cell? ⟨gb, 0, none⟩ = some (.slice A0_0 0 c0_0) := (bC_ BX2.out 0).trans rfl; have y1 : w3.cell? ⟨gb, 1, none⟩ = some (.slice A0_1 l0_1.length c0_1) := (bC_ BX2.out 1).trans rfl; have y2 : w3.cell? ⟨gb, 2, none⟩ = some (.int .i64 x.f0) := (bC_ BX2.out 2).trans rfl; have y3 : w3.cell? ⟨gb, 3, none⟩ = some (.int .i64 x.f1) := (bC_ BX2.out 3).trans rfl; have y4 : w3.cell? ⟨gb, 4, none⟩ = some (.int .i64 x.f2) := (bC_ BX2.out 4).trans rfl; have y5 : w3.cell? ⟨gb, 5, none⟩ = some (.int .i64 x.f3) := (bC_ BX2.out 5).trans rfl; have y6 : w3.cell? ⟨gb, 6, none⟩ = some (.int .i64 x.f4) := (bC_ BX2.out 6).trans rfl; have y7 : w3.cell? ⟨gb, 7, none⟩ = some (.string x.f5) := (bC_ BX2.out 7).trans rfl) | (go_at_call 84; refine (sched_Bundles.calls A0_0 0 c0_0 A0_1 c0_1 l0_1 x _ (Kd.C_below HL.out HB2.out) hc0_1 HO.out hn hx0).mono ?_; rintro e w4 ⟨v9, rfl, hR, hb⟩; have HR := aM_ hR; have HB3 := aM_ hb; clear hR hb))
      go_ret2
      exact ⟨_, rfl, Kd.R_lower HR.out HB2.out.size, HB2.out.trans (HB3.out.mono HB2.out.size)⟩
  · exact absurd h (by simp)
end
section
def w15_wakes.f (k : Nat) : Option Bool := some true
theorem w15_wakes.mono : ∀ k, LeO (w15_wakes.f k) (w15_wakes.f (k + 1)) := fun _ => LeO.refl _
def wkI : S24 := ⟨23, 1, 0, 0, 5, ⟨#[]⟩⟩
def wkX : List S81 := [⟨wkI, z24, z24, z24⟩, ⟨⟨33, 0, 0, 0, 0, ⟨#[]⟩⟩, z24, z24, z24⟩]
theorem wk_of : sched_Of.f 0 [] [wkI] 33 0 0 0 0 ⟨#[]⟩ = some (wkX, 0) := by kernel_rfl
theorem wk_of0 : sched_Of.f 0 [] [] 0 0 0 0 0 ⟨#[]⟩ = some ([], 0) := by kernel_rfl
theorem lit24_C (w : World) (x : S24) : Kd.C k24 (w.alloc (.cells #[.int .i64 x.f0, .int .i64 x.f1, .int .i64 x.f2, .int .i64 x.f3, .int .i64 x.f4, .string x.f5] 24)) (some ⟨w.heap.size, 0, none⟩) 1 [x] := by
  have hb : (w.alloc (.cells #[.int .i64 x.f0, .int .i64 x.f1, .int .i64 x.f2, .int .i64 x.f3, .int .i64 x.f4, .string x.f5] 24)).heap[w.heap.size]? = some (.cells #[.int .i64 x.f0, .int .i64 x.f1, .int .i64 x.f2, .int .i64 x.f3, .int .i64 x.f4, .string x.f5] 24) := blk_new w _
  refine ⟨rfl, by omega, fun _ => ⟨⟨w.heap.size, 0, none⟩, rfl, fun j p hj => ⟨insC x, rfl, ?_, fun i u hi => ?_⟩⟩⟩
  · obtain rfl : p = x := by
      cases j with
      | zero => simpa using hj.symm
      | succ j => simp at hj
    exact k24_mk _ p
  · have hj0 : j = 0 := by
      cases j with
      | zero => rfl
      | succ j => simp at hj
    subst hj0
    have hc := bC_ hb i
    have ha : (Addr.add ⟨w.heap.size, 0, none⟩ (0 * k24.sz + i)) = ⟨w.heap.size, i, none⟩ := by
      rw [Nat.zero_mul, Nat.zero_add]
      unfold Addr.add
      by_cases h0 : i = 0
      · subst h0; rfl
      · rw [if_neg h0]; simp
    rw [ha, hc]
    simpa [insC] using hi
theorem wakes_walk (w : World) : Calls Try.prog 46 #[] w fun e w' => e = .returned (.bool true) ∧ Below w.heap.size w w' := by
  have hu73 := Try.underlying73
  have hu24 := Try.underlying24
  have HS' : As_ (∀ W : World, Kd.C Kd.string W none ([] : List ByteArray).length []) := ⟨fun W => ⟨rfl, by decide, fun h => absurd h (by decide)⟩⟩
  have HI' : As_ (∀ W : World, Kd.C k24 W none ([] : List S24).length []) := ⟨fun W => ⟨rfl, by decide, fun h => absurd h (by decide)⟩⟩
  have F9 : As_ (w15_num.f 0 = some 0) := ⟨rfl⟩
  go_enter Try.func46, Try.ntmps46
  go_wp2_with fail
  refine (sched_Of.calls 0 none 0 [] none 0 [] 0 0 0 0 0 ⟨#[]⟩ [] 0 w (HS'.out _) (Nat.le_refl _) (HI'.out _) (Nat.le_refl _) wk_of0).mono ?_
  rintro e w1 ⟨v0, rfl, hR, hb⟩
  obtain ⟨Ab, cb, rfl⟩ := Kd.R_slice hR
  have B1 := aM_ hb
  clear hR hb
  go_wp2_with fail
  have hC := lit24_C w1 wkI
  have hcall := sched_Of.calls 0 none 0 [] (some ⟨w1.heap.size, 0, none⟩) 1 [wkI] 33 0 0 0 0 ⟨#[]⟩ wkX 0 _ (HS'.out _) (Nat.le_refl _) hC (Nat.le_refl _) wk_of
  refine hcall.mono ?_
  clear hcall hC HS' HI'
  rintro e w2 ⟨v0, rfl, hR, hb⟩
  obtain ⟨Ax, cx, rfl⟩ := Kd.R_slice hR
  have B2 := aM_ ((bA_ B1.out _).trans (hb.mono (bA_ B1.out _).size))
  have hC := (Kd.R_reads' hR).2.2
  obtain ⟨ad, e1, hc⟩ := hC.2.2 (by decide)
  subst e1
  have cell1 : w2.cell? (ad.add (0 * 24 + 0)) = some (.int .i64 23) := by
    obtain ⟨c, hl, hK, hx⟩ := hc 0 _ rfl
    have hk := k81_open hK
    subst hk
    exact hx 0 _ rfl
  have cell2 : w2.cell? (ad.add (1 * 24 + 0)) = some (.int .i64 33) := by
    obtain ⟨c, hl, hK, hx⟩ := hc 1 _ rfl
    have hk := k81_open hK
    subst hk
    exact hx 0 _ rfl
  simp only [Nat.zero_mul, Nat.one_mul, Nat.add_zero] at cell1 cell2
  have cell0 : w2.cell? ad = some (.int .i64 23) := by
    have h := cell1
    unfold Addr.add at h
    simpa using h
  have cell3 : w2.cell? ⟨ad.block, ad.off + 24, none⟩ = some (.int .i64 33) := by
    have h := cell2
    unfold Addr.add at h
    simpa using h
  clear hc hC hR hb cell1 cell2
  go_wp2_with (go_at_call 48; refine (w15_num.calls 0 0 _ F9.out).mono ?_; rintro e w' ⟨rfl, ⟨nd, rfl⟩⟩)
  go_ret
  exact ⟨rfl, by repeat (first | exact B2.out | apply bN_)⟩
theorem w15_wakes.calls (k : Nat) (r : Bool) (w : World) (h : w15_wakes.f k = some r) : Calls Try.prog 46 #[] w fun e w' => e = .returned (.bool r) ∧ Below w.heap.size w w' := by
  obtain rfl := Option.some.inj h
  exact wakes_walk w
end
section
attribute [local go_sem] max2_int min2_int max_two min_two max_three min_three max_four min_four
def w0_Texts.l0 : Nat → List ByteArray → Int → Int → Option (Int)
  | 0, _, _, _ => none
  | k + 1, x0, x3, x4 => if x4 < (x0.length : Int) then (if x3 < 1048576 then (if 0 ≤ x4 then (w0_Texts.l0 k x0 (wrap64 (x3 + ((rdOf ByteArray.empty x0 x4).size : Int))) (wrap64 (x4 + 1))) else (none)) else (some x3)) else (some x3)
def w0_Texts.f (k : Nat) (l0 : List ByteArray) : Option (Int) := w0_Texts.l0 k l0 (l0.length : Int) 0
theorem w0_Texts.calls (k : Nat) (A0 : Option Addr) (c0 : Nat) (l0 : List ByteArray) (r : Int) (w : World) (hr0 : Kd.C Kd.string w A0 l0.length l0) (hc0 : l0.length ≤ c0) (h : w0_Texts.f k l0 = some r) :
    Calls Try.prog 124 #[.slice A0 l0.length c0] w fun e w' => e = .returned (.int .i64 r) ∧ Dr_ w w' := by
 have HR0 := aM_ hr0
 have HC0 := aM_ hc0
 clear hr0 hc0
 have H : (w0_Texts.l0 k l0 (l0.length : Int) 0) = some r := h
 clear h
 replace H := aM_ H
 go_enter Try.func124, Try.ntmps124
 go_wp2
 go_loopg [3, 4] k (fun kq v3 v4 w' => ∃ (x3_1 : Int) (x4_1 : Int), v3 = .int .i64 x3_1 ∧ v4 = .int .i64 x4_1 ∧ As_ (w0_Texts.l0 kq l0 x3_1 x4_1 = some r) ∧ As_ (kq ≤ k) ∧ Dr_ w w')
 case atStart => exact ⟨((l0.length : Int)), (0), eQ_, eQ_, H, ⟨Nat.le_refl _⟩, dR_⟩
 case round =>
  clear H
  obtain ⟨x3_1, x4_1, rfl, rfl, HA, HK1, ⟨m1, rfl⟩⟩ := hrel
  cases gk with
  | zero => exact absurd HA.out (by simp [w0_Texts.l0])
  | succ k1 =>
   have H := HA.out
   clear HA
   simp only [w0_Texts.l0] at H
   by_cases c2 : x4_1 < (l0.length : Int)
   ·rw [if_pos c2] at H
    have c2b0 := dE_ c2
    clear c2
    by_cases c3 : x3_1 < 1048576
    ·rw [if_pos c3] at H
     have c3b0 := dE_ c3
     clear c3
     by_cases c4 : 0 ≤ x4_1
     ·rw [if_pos c4] at H
      have c4b0 := dE_ c4
      clear c4
      replace H := aM_ H
      have p793 : 0 ≤ (x4_1 : Int) := oD_
      have q793 : x4_1 < (l0.length : Int) := oD_
      obtain ⟨ad793, e793, hx793_0⟩ := Kd.at_string HR0.out x4_1 p793 q793
      cases e793
      replace p793 := eq_true p793
      replace q793 := eq_true q793
      go_wp2
      go_roundg k1
      case measure => have := HK1.out; omega
      case rel => exact ⟨(wrap64 (x3_1 + ((rdOf ByteArray.empty l0 x4_1).size : Int))), (wrap64 (x4_1 + 1)), eQ_, eQ_, H, ⟨by have := HK1.out; omega⟩, dR_⟩
     rw [if_neg c4] at H
     exact absurd H (by simp)
    rw [if_neg c3] at H
    have c3b0 := dF_ c3
    clear c3
    obtain rfl := oI_ H
    go_wp2
    go_ret
    exact ⟨eQ_, dR_⟩
   rw [if_neg c2] at H
   have c2b0 := dF_ c2
   clear c2
   obtain rfl := oI_ H
   go_wp2
   go_ret
   exact ⟨eQ_, dR_⟩
end
section
attribute [local go_sem] max2_int min2_int max_two min_two max_three min_three max_four min_four
mutual
def w0_UnitWeight.j1 : Nat → Int → List (S145) → List (S147) → List (S149) → List ByteArray → Option (Int)
  | 0, _, _, _, _, _ => none
  | k + 1, x3, x795a, x795b, x795c, x795d => w0_UnitWeight.l1 k x3 0 x795a x795b x795c x795d
def w0_UnitWeight.j3 : Nat → Int → List (S145) → List (S147) → List (S149) → List ByteArray → Option (Int)
  | 0, _, _, _, _, _ => none
  | k + 1, x3, x795a, x795b, x795c, x795d => w0_UnitWeight.l2 k x3 0 x795a x795b x795c x795d
def w0_UnitWeight.l2 : Nat → Int → Int → List (S145) → List (S147) → List (S149) → List ByteArray → Option (Int)
  | 0, _, _, _, _, _, _ => none
  | k + 1, x3, x6, x795a, x795b, x795c, x795d => if x6 < (x795c.length : Int) then (if x3 < 1048576 then (if 0 ≤ x6 then (w0_UnitWeight.l2 k (wrap64 (x3 + (wrap64 ((((q149 x795c x6).f0).size : Int) / 8)))) (wrap64 (x6 + 1)) x795a x795b x795c x795d) else (none)) else (some x3)) else (some x3)
def w0_UnitWeight.l1 : Nat → Int → Int → List (S145) → List (S147) → List (S149) → List ByteArray → Option (Int)
  | 0, _, _, _, _, _, _ => none
  | k + 1, x3, x5, x795a, x795b, x795c, x795d => if x5 < (x795b.length : Int) then (if x3 < 1048576 then (if 0 ≤ x5 then (w0_UnitWeight.l1 k (wrap64 (x3 + (wrap64 ((((q147 x795b x5).f0).size : Int) / 8)))) (wrap64 (x5 + 1)) x795a x795b x795c x795d) else (none)) else (w0_UnitWeight.j3 k x3 x795a x795b x795c x795d)) else (w0_UnitWeight.j3 k x3 x795a x795b x795c x795d)
def w0_UnitWeight.l0 : Nat → Int → Int → List (S145) → List (S147) → List (S149) → List ByteArray → Option (Int)
  | 0, _, _, _, _, _, _ => none
  | k + 1, x3, x4, x795a, x795b, x795c, x795d => if x4 < (x795a.length : Int) then (if x3 < 1048576 then (if 0 ≤ x4 then (w0_UnitWeight.l0 k (wrap64 (x3 + (wrap64 (Int.tdiv (wrap64 ((((q145 x795a x4).f0).size : Int) + (((q145 x795a x4).f1.f5).size : Int))) 8)))) (wrap64 (x4 + 1)) x795a x795b x795c x795d) else (none)) else (w0_UnitWeight.j1 k x3 x795a x795b x795c x795d)) else (w0_UnitWeight.j1 k x3 x795a x795b x795c x795d)
end
def w0_UnitWeight.f (k : Nat) (l0_0 : List (S145)) (l0_1 : List (S147)) (l0_2 : List (S149)) (l0_3 : List ByteArray) : Option (Int) := (w0_Texts.f k l0_3).bind fun t795 => (w0_UnitWeight.l0 k (wrap64 ((wrap64 ((wrap64 ((wrap64 ((l0_0.length : Int) + (l0_1.length : Int))) + (l0_2.length : Int))) + (l0_3.length : Int))) + (wrap64 (Int.tdiv t795 8)))) 0 l0_0 l0_1 l0_2 l0_3)
theorem w0_UnitWeight.calls (k : Nat) (A0_0 : Option Addr) (c0_0 : Nat) (l0_0 : List (S145)) (A0_1 : Option Addr) (c0_1 : Nat) (l0_1 : List (S147)) (A0_2 : Option Addr) (c0_2 : Nat) (l0_2 : List (S149)) (A0_3 : Option Addr) (c0_3 : Nat) (l0_3 : List ByteArray) (r : Int) (w : World) (hr0_0 : Kd.C k145 w A0_0 l0_0.length l0_0) (hc0_0 : l0_0.length ≤ c0_0) (hr0_1 : Kd.C k147 w A0_1 l0_1.length l0_1) (hc0_1 : l0_1.length ≤ c0_1) (hr0_2 : Kd.C k149 w A0_2 l0_2.length l0_2) (hc0_2 : l0_2.length ≤ c0_2) (hr0_3 : Kd.C Kd.string w A0_3 l0_3.length l0_3) (hc0_3 : l0_3.length ≤ c0_3) (h : w0_UnitWeight.f k l0_0 l0_1 l0_2 l0_3 = some r) :
    Calls Try.prog 125 #[.agg #[.slice A0_0 l0_0.length c0_0, .slice A0_1 l0_1.length c0_1, .slice A0_2 l0_2.length c0_2, .slice A0_3 l0_3.length c0_3]] w fun e w' => e = .returned (.int .i64 r) ∧ Below w.heap.size w w' := by
 have hu140 := Try.underlying140
 have HR0_0 := aM_ hr0_0
 have HC0_0 := aM_ hc0_0
 clear hr0_0 hc0_0
 have HR0_1 := aM_ hr0_1
 have HC0_1 := aM_ hc0_1
 clear hr0_1 hc0_1
 have HR0_2 := aM_ hr0_2
 have HC0_2 := aM_ hc0_2
 clear hr0_2 hc0_2
 have HR0_3 := aM_ hr0_3
 have HC0_3 := aM_ hc0_3
 clear hr0_3 hc0_3
 have HB := aM_ (Below.refl w.heap.size w)
 have H : ((w0_Texts.f k l0_3).bind fun t795 => (w0_UnitWeight.l0 k (wrap64 ((wrap64 ((wrap64 ((wrap64 ((l0_0.length : Int) + (l0_1.length : Int))) + (l0_2.length : Int))) + (l0_3.length : Int))) + (wrap64 (Int.tdiv t795 8)))) 0 l0_0 l0_1 l0_2 l0_3)) = some r := h
 clear h
 replace H := oB_ H
 obtain ⟨t795, A2, H⟩ := H
 have HC3 := aM_ H
 clear H
 go_enter Try.func125, Try.ntmps125
 go_upto_block 0 with (first | ((with_reducible refine gate_dst (N := 1) rfl ?_); refine bX_ (N := 1) (cs := #[.slice A0_0 l0_0.length c0_0, .slice A0_1 l0_1.length c0_1, .slice A0_2 l0_2.length c0_2, .slice A0_3 l0_3.length c0_3]) (t := 140) ?_; intro gb794 hg w4 hbox hb; replace BK794 := aM_ (hbox); replace GW794 := aM_ (gE_ hg (bl_ HB)); replace GE794 := aM_ (gE_ hg (bl_ HB)); replace HB := aM_ (bT_ (bl_ HB) hb); clear hb hbox hg; obtain ⟨hcz5_0, hcz5_1, hcz5_2, hcz5_3⟩ := cl4_ BK794.out; obtain ⟨hfz5_0, hfz5_1, hfz5_2, hfz5_3⟩ := fz4_ BK794.out) | (go_at_call 124; (with_reducible refine (w0_Texts.calls k _ _ l0_3 t795 _ ?side1 ?side2 A2.out).mono ?_); (case side1 => exact rC_ (Kd.C_below HR0_3.out HB.out)); (case side2 => exact HC0_3.out); rintro e w' ⟨rfl, ⟨nd, rfl⟩⟩; (try first | exact ⟨rfl, _, dN_⟩ | exact ⟨rfl, _, dT_⟩)))
 repeat (go_quiet (first | ((with_reducible refine gate_dst (N := 1) rfl ?_); refine bX_ (N := 1) (cs := #[.slice A0_0 l0_0.length c0_0, .slice A0_1 l0_1.length c0_1, .slice A0_2 l0_2.length c0_2, .slice A0_3 l0_3.length c0_3]) (t := 140) ?_; intro gb794 hg w4 hbox hb; replace BK794 := aM_ (hbox); replace GW794 := aM_ (gE_ hg (bl_ HB)); replace GE794 := aM_ (gE_ hg (bl_ HB)); replace HB := aM_ (bT_ (bl_ HB) hb); clear hb hbox hg; obtain ⟨hcz5_0, hcz5_1, hcz5_2, hcz5_3⟩ := cl4_ BK794.out; obtain ⟨hfz5_0, hfz5_1, hfz5_2, hfz5_3⟩ := fz4_ BK794.out) | (go_at_call 124; (with_reducible refine (w0_Texts.calls k _ _ l0_3 t795 _ ?side1 ?side2 A2.out).mono ?_); (case side1 => exact rC_ (Kd.C_below HR0_3.out HB.out)); (case side2 => exact HC0_3.out); rintro e w' ⟨rfl, ⟨nd, rfl⟩⟩; (try first | exact ⟨rfl, _, dN_⟩ | exact ⟨rfl, _, dT_⟩))); go_upto_block 0 with (first | ((with_reducible refine gate_dst (N := 1) rfl ?_); refine bX_ (N := 1) (cs := #[.slice A0_0 l0_0.length c0_0, .slice A0_1 l0_1.length c0_1, .slice A0_2 l0_2.length c0_2, .slice A0_3 l0_3.length c0_3]) (t := 140) ?_; intro gb794 hg w4 hbox hb; replace BK794 := aM_ (hbox); replace GW794 := aM_ (gE_ hg (bl_ HB)); replace GE794 := aM_ (gE_ hg (bl_ HB)); replace HB := aM_ (bT_ (bl_ HB) hb); clear hb hbox hg; obtain ⟨hcz5_0, hcz5_1, hcz5_2, hcz5_3⟩ := cl4_ BK794.out; obtain ⟨hfz5_0, hfz5_1, hfz5_2, hfz5_3⟩ := fz4_ BK794.out) | (go_at_call 124; (with_reducible refine (w0_Texts.calls k _ _ l0_3 t795 _ ?side1 ?side2 A2.out).mono ?_); (case side1 => exact rC_ (Kd.C_below HR0_3.out HB.out)); (case side2 => exact HC0_3.out); rintro e w' ⟨rfl, ⟨nd, rfl⟩⟩; (try first | exact ⟨rfl, _, dN_⟩ | exact ⟨rfl, _, dT_⟩))))
 (try simp only [Act.put, List.setIfInBounds_toArray, List.set_cons_zero, List.set_cons_succ])
 go_cut [3] (fun v3 wc => ∃ (kq : Nat) (x3_2 : Int), v3 = .int .i64 x3_2 ∧ As_ (w0_UnitWeight.j1 kq x3_2 l0_0 l0_1 l0_2 l0_3 = some r) ∧ As_ (kq ≤ k) ∧ As_ (wc.heap[gb794]? = some (.cells #[(.slice A0_0 l0_0.length c0_0), (.slice A0_1 l0_1.length c0_1), (.slice A0_2 l0_2.length c0_2), (.slice A0_3 l0_3.length c0_3)] 140 (0, 0))) ∧ As_ (Below w.heap.size w wc))
 case first =>
  have H := HC3.out
  clear HC3
  replace H := aM_ H
  go_wp2
  repeat (go_quiet (fail); try go_wp2)
  go_loopg [3, 4] k (fun kq v3 v4 w' => ∃ (x3_1 : Int) (x4_1 : Int), v3 = .int .i64 x3_1 ∧ v4 = .int .i64 x4_1 ∧ As_ (w0_UnitWeight.l0 kq x3_1 x4_1 l0_0 l0_1 l0_2 l0_3 = some r) ∧ As_ (kq ≤ k) ∧ As_ (w'.heap[gb794]? = some (.cells #[(.slice A0_0 l0_0.length c0_0), (.slice A0_1 l0_1.length c0_1), (.slice A0_2 l0_2.length c0_2), (.slice A0_3 l0_3.length c0_3)] 140 (0, 0))) ∧ As_ (Below w.heap.size w w'))
  case atStart => exact ⟨(wrap64 ((wrap64 ((wrap64 ((wrap64 ((l0_0.length : Int) + (l0_1.length : Int))) + (l0_2.length : Int))) + (l0_3.length : Int))) + (wrap64 (Int.tdiv t795 8)))), (0), eQ_, eQ_, H, ⟨Nat.le_refl _⟩, ⟨rB_ BK794⟩, ⟨bs_ HB GE794⟩⟩
  case round =>
   clear H
   obtain ⟨x3_1, x4_1, rfl, rfl, HA, HK1, BK794, HB⟩ := hrel
   cases gk with
   | zero => exact absurd HA.out (by simp [w0_UnitWeight.l0])
   | succ k1 =>
    have H := HA.out
    clear HA
    simp only [w0_UnitWeight.l0] at H
    by_cases c6 : x4_1 < (l0_0.length : Int)
    ·rw [if_pos c6] at H
     have c6b0 := dE_ c6
     clear c6
     (first | rw [c6b0] | (simp only [i64_w, i32_w]; rw [c6b0]) | skip)
     by_cases c7 : x3_1 < 1048576
     ·rw [if_pos c7] at H
      have c7b0 := dE_ c7
      clear c7
      by_cases c8 : 0 ≤ x4_1
      ·rw [if_pos c8] at H
       have c8b0 := dE_ c8
       clear c8
       replace H := aM_ H
       obtain ⟨hcz9_0, hcz9_1, hcz9_2, hcz9_3⟩ := cl4_ BK794.out
       obtain ⟨hfz9_0, hfz9_1, hfz9_2, hfz9_3⟩ := fz4_ BK794.out
       have p796 : 0 ≤ (x4_1 : Int) := oD_
       have q796 : x4_1 < (l0_0.length : Int) := oD_
       obtain ⟨ad796, e796, hx796_0, hx796_1, hx796_2, hx796_3, hx796_4, hx796_5, hx796_6⟩ := at_T145 HR0_0.out x4_1 p796 q796
       cases e796
       replace hx796_0 := hC_ HB hx796_0
       replace hx796_1 := hC_ HB hx796_1
       replace hx796_2 := hC_ HB hx796_2
       replace hx796_3 := hC_ HB hx796_3
       replace hx796_4 := hC_ HB hx796_4
       replace hx796_5 := hC_ HB hx796_5
       replace hx796_6 := hC_ HB hx796_6
       replace p796 := eq_true p796
       replace q796 := eq_true q796
       have p797 : 0 ≤ (x4_1 : Int) := oD_
       have q797 : x4_1 < (l0_0.length : Int) := oD_
       obtain ⟨ad797, e797, hx797_0, hx797_1, hx797_2, hx797_3, hx797_4, hx797_5, hx797_6⟩ := at_T145 HR0_0.out x4_1 p797 q797
       obtain rfl : ad796 = ad797 := (by injection e797)
       replace hx797_0 := hC_ HB hx797_0
       replace hx797_1 := hC_ HB hx797_1
       replace hx797_2 := hC_ HB hx797_2
       replace hx797_3 := hC_ HB hx797_3
       replace hx797_4 := hC_ HB hx797_4
       replace hx797_5 := hC_ HB hx797_5
       replace hx797_6 := hC_ HB hx797_6
       replace p797 := eq_true p797
       replace q797 := eq_true q797
       go_wp2
       repeat (go_quiet (fail); try go_wp2)
       go_roundg k1
       case measure => have := HK1.out; omega
       case rel => exact ⟨(wrap64 (x3_1 + (wrap64 (Int.tdiv (wrap64 ((((q145 l0_0 x4_1).f0).size : Int) + (((q145 l0_0 x4_1).f1.f5).size : Int))) 8)))), (wrap64 (x4_1 + 1)), eQ_, eQ_, H, ⟨by have := HK1.out; omega⟩, ⟨rB_ BK794⟩, ⟨bs_ HB GE794⟩⟩
      rw [if_neg c8] at H
      exact absurd H (by simp)
     rw [if_neg c7] at H
     have c7b0 := dF_ c7
     clear c7
     replace H := aM_ H
     obtain ⟨hcz10_0, hcz10_1, hcz10_2, hcz10_3⟩ := cl4_ BK794.out
     obtain ⟨hfz10_0, hfz10_1, hfz10_2, hfz10_3⟩ := fz4_ BK794.out
     go_wp2
     repeat (go_quiet (fail); try go_wp2)
     go_meet
     case rel => exact ⟨_, (x3_1), eQ_, H, ⟨by have := HK1.out; first | omega | exact Nat.le_refl _⟩, ⟨rB_ BK794⟩, ⟨bs_ HB GE794⟩⟩
    rw [if_neg c6] at H
    have c6b0 := dF_ c6
    clear c6
    (first | rw [c6b0] | (simp only [i64_w, i32_w]; rw [c6b0]) | skip)
    replace H := aM_ H
    obtain ⟨hcz11_0, hcz11_1, hcz11_2, hcz11_3⟩ := cl4_ BK794.out
    obtain ⟨hfz11_0, hfz11_1, hfz11_2, hfz11_3⟩ := fz4_ BK794.out
    go_wp2
    repeat (go_quiet (fail); try go_wp2)
    go_meet
    case rel => exact ⟨_, (x3_1), eQ_, H, ⟨by have := HK1.out; first | omega | exact Nat.le_refl _⟩, ⟨rB_ BK794⟩, ⟨bs_ HB GE794⟩⟩
 case rest =>
  clear HC3
  obtain ⟨kq, x3_2, rfl, HA, HJ2, BK794, HB⟩ := hcut
  cases kq with
  | zero => exact absurd HA.out (by simp [w0_UnitWeight.j1])
  | succ kj2 =>
   have H := HA.out
   clear HA
   simp only [w0_UnitWeight.j1] at H
   have HC12 := aM_ H
   clear H
   go_upto_block 2 with (fail)
   repeat (go_quiet (fail); go_upto_block 2 with (fail))
   go_cut [3] (fun v3 wc => ∃ (kq : Nat) (x3_11 : Int), v3 = .int .i64 x3_11 ∧ As_ (w0_UnitWeight.j3 kq x3_11 l0_0 l0_1 l0_2 l0_3 = some r) ∧ As_ (kq ≤ kj2) ∧ As_ (wc.heap[gb794]? = some (.cells #[(.slice A0_0 l0_0.length c0_0), (.slice A0_1 l0_1.length c0_1), (.slice A0_2 l0_2.length c0_2), (.slice A0_3 l0_3.length c0_3)] 140 (0, 0))) ∧ As_ (Below w.heap.size w wc))
   case first =>
    have H := HC12.out
    clear HC12
    replace H := aM_ H
    go_wp2
    repeat (go_quiet (fail); try go_wp2)
    go_loopg [3, 5] kj2 (fun kq v3 v5 w' => ∃ (x3_2 : Int) (x5_2 : Int), v3 = .int .i64 x3_2 ∧ v5 = .int .i64 x5_2 ∧ As_ (w0_UnitWeight.l1 kq x3_2 x5_2 l0_0 l0_1 l0_2 l0_3 = some r) ∧ As_ (kq ≤ kj2) ∧ As_ (w'.heap[gb794]? = some (.cells #[(.slice A0_0 l0_0.length c0_0), (.slice A0_1 l0_1.length c0_1), (.slice A0_2 l0_2.length c0_2), (.slice A0_3 l0_3.length c0_3)] 140 (0, 0))) ∧ As_ (Below w.heap.size w w'))
    case atStart => exact ⟨(x3_2), (0), eQ_, eQ_, H, ⟨Nat.le_refl _⟩, ⟨rB_ BK794⟩, ⟨bs_ HB GE794⟩⟩
    case round =>
     clear H
     obtain ⟨x3_2, x5_2, rfl, rfl, HA, HK2, BK794, HB⟩ := hrel
     cases gk with
     | zero => exact absurd HA.out (by simp [w0_UnitWeight.l1])
     | succ k2 =>
      have H := HA.out
      clear HA
      simp only [w0_UnitWeight.l1] at H
      by_cases c13 : x5_2 < (l0_1.length : Int)
      ·rw [if_pos c13] at H
       have c13b0 := dE_ c13
       clear c13
       (first | rw [c13b0] | (simp only [i64_w, i32_w]; rw [c13b0]) | skip)
       by_cases c14 : x3_2 < 1048576
       ·rw [if_pos c14] at H
        have c14b0 := dE_ c14
        clear c14
        by_cases c15 : 0 ≤ x5_2
        ·rw [if_pos c15] at H
         have c15b0 := dE_ c15
         clear c15
         replace H := aM_ H
         obtain ⟨hcz16_0, hcz16_1, hcz16_2, hcz16_3⟩ := cl4_ BK794.out
         obtain ⟨hfz16_0, hfz16_1, hfz16_2, hfz16_3⟩ := fz4_ BK794.out
         have p798 : 0 ≤ (x5_2 : Int) := oD_
         have q798 : x5_2 < (l0_1.length : Int) := oD_
         obtain ⟨ad798, e798, hx798_0, hx798_1⟩ := at_T147 HR0_1.out x5_2 p798 q798
         cases e798
         replace hx798_0 := hC_ HB hx798_0
         replace hx798_1 := hC_ HB hx798_1
         replace p798 := eq_true p798
         replace q798 := eq_true q798
         go_wp2
         repeat (go_quiet (fail); try go_wp2)
         go_roundg k2
         case measure => have := HJ2.out; have := HK2.out; omega
         case rel => exact ⟨(wrap64 (x3_2 + (wrap64 ((((q147 l0_1 x5_2).f0).size : Int) / 8)))), (wrap64 (x5_2 + 1)), eQ_, eQ_, H, ⟨by have := HJ2.out; have := HK2.out; omega⟩, ⟨rB_ BK794⟩, ⟨bs_ HB GE794⟩⟩
        rw [if_neg c15] at H
        exact absurd H (by simp)
       rw [if_neg c14] at H
       have c14b0 := dF_ c14
       clear c14
       replace H := aM_ H
       obtain ⟨hcz17_0, hcz17_1, hcz17_2, hcz17_3⟩ := cl4_ BK794.out
       obtain ⟨hfz17_0, hfz17_1, hfz17_2, hfz17_3⟩ := fz4_ BK794.out
       go_wp2
       repeat (go_quiet (fail); try go_wp2)
       go_meet
       case rel => exact ⟨_, (x3_2), eQ_, H, ⟨by have := HJ2.out; have := HK2.out; first | omega | exact Nat.le_refl _⟩, ⟨rB_ BK794⟩, ⟨bs_ HB GE794⟩⟩
      rw [if_neg c13] at H
      have c13b0 := dF_ c13
      clear c13
      (first | rw [c13b0] | (simp only [i64_w, i32_w]; rw [c13b0]) | skip)
      replace H := aM_ H
      obtain ⟨hcz18_0, hcz18_1, hcz18_2, hcz18_3⟩ := cl4_ BK794.out
      obtain ⟨hfz18_0, hfz18_1, hfz18_2, hfz18_3⟩ := fz4_ BK794.out
      go_wp2
      repeat (go_quiet (fail); try go_wp2)
      go_meet
      case rel => exact ⟨_, (x3_2), eQ_, H, ⟨by have := HJ2.out; have := HK2.out; first | omega | exact Nat.le_refl _⟩, ⟨rB_ BK794⟩, ⟨bs_ HB GE794⟩⟩
   case rest =>
    clear HC12
    obtain ⟨kq, x3_11, rfl, HA, HJ11, BK794, HB⟩ := hcut
    cases kq with
    | zero => exact absurd HA.out (by simp [w0_UnitWeight.j3])
    | succ kj11 =>
     have H := HA.out
     clear HA
     simp only [w0_UnitWeight.j3] at H
     replace H := aM_ H
     go_wp2
     repeat (go_quiet (fail); try go_wp2)
     go_loopg [3, 6] kj11 (fun kq v3 v6 w' => ∃ (x3_3 : Int) (x6_3 : Int), v3 = .int .i64 x3_3 ∧ v6 = .int .i64 x6_3 ∧ As_ (w0_UnitWeight.l2 kq x3_3 x6_3 l0_0 l0_1 l0_2 l0_3 = some r) ∧ As_ (kq ≤ kj11) ∧ As_ (w'.heap[gb794]? = some (.cells #[(.slice A0_0 l0_0.length c0_0), (.slice A0_1 l0_1.length c0_1), (.slice A0_2 l0_2.length c0_2), (.slice A0_3 l0_3.length c0_3)] 140 (0, 0))) ∧ As_ (Below w.heap.size w w'))
     case atStart => exact ⟨(x3_11), (0), eQ_, eQ_, H, ⟨Nat.le_refl _⟩, ⟨rB_ BK794⟩, ⟨bs_ HB GE794⟩⟩
     case round =>
      clear H
      obtain ⟨x3_3, x6_3, rfl, rfl, HA, HK3, BK794, HB⟩ := hrel
      cases gk with
      | zero => exact absurd HA.out (by simp [w0_UnitWeight.l2])
      | succ k3 =>
       have H := HA.out
       clear HA
       simp only [w0_UnitWeight.l2] at H
       by_cases c19 : x6_3 < (l0_2.length : Int)
       ·rw [if_pos c19] at H
        have c19b0 := dE_ c19
        clear c19
        by_cases c20 : x3_3 < 1048576
        ·rw [if_pos c20] at H
         have c20b0 := dE_ c20
         clear c20
         by_cases c21 : 0 ≤ x6_3
         ·rw [if_pos c21] at H
          have c21b0 := dE_ c21
          clear c21
          replace H := aM_ H
          obtain ⟨hcz22_0, hcz22_1, hcz22_2, hcz22_3⟩ := cl4_ BK794.out
          obtain ⟨hfz22_0, hfz22_1, hfz22_2, hfz22_3⟩ := fz4_ BK794.out
          have p799 : 0 ≤ (x6_3 : Int) := oD_
          have q799 : x6_3 < (l0_2.length : Int) := oD_
          obtain ⟨ad799, e799, hx799_0, hx799_1, hx799_2, hx799_3⟩ := at_T149 HR0_2.out x6_3 p799 q799
          cases e799
          replace hx799_0 := hC_ HB hx799_0
          replace hx799_1 := hC_ HB hx799_1
          replace hx799_2 := hC_ HB hx799_2
          replace hx799_3 := hC_ HB hx799_3
          replace p799 := eq_true p799
          replace q799 := eq_true q799
          go_wp2
          repeat (go_quiet (fail); try go_wp2)
          go_roundg k3
          case measure => have := HJ2.out; have := HJ11.out; have := HK3.out; omega
          case rel => exact ⟨(wrap64 (x3_3 + (wrap64 ((((q149 l0_2 x6_3).f0).size : Int) / 8)))), (wrap64 (x6_3 + 1)), eQ_, eQ_, H, ⟨by have := HJ2.out; have := HJ11.out; have := HK3.out; omega⟩, ⟨rB_ BK794⟩, ⟨bs_ HB GE794⟩⟩
         rw [if_neg c21] at H
         exact absurd H (by simp)
        rw [if_neg c20] at H
        have c20b0 := dF_ c20
        clear c20
        obtain rfl := oI_ H
        obtain ⟨hcz23_0, hcz23_1, hcz23_2, hcz23_3⟩ := cl4_ BK794.out
        obtain ⟨hfz23_0, hfz23_1, hfz23_2, hfz23_3⟩ := fz4_ BK794.out
        go_wp2
        repeat (go_quiet (fail); try go_wp2)
        go_ret
        exact ⟨eR_, bs_ HB GE794⟩
       rw [if_neg c19] at H
       have c19b0 := dF_ c19
       clear c19
       obtain rfl := oI_ H
       obtain ⟨hcz24_0, hcz24_1, hcz24_2, hcz24_3⟩ := cl4_ BK794.out
       obtain ⟨hfz24_0, hfz24_1, hfz24_2, hfz24_3⟩ := fz4_ BK794.out
       go_wp2
       repeat (go_quiet (fail); try go_wp2)
       go_ret
       exact ⟨eR_, bs_ HB GE794⟩
end
section
attribute [local go_sem] max2_int min2_int max_two min_two max_three min_three max_four min_four
def w12_Heavy.l0 : Nat → Int → Int → List ByteArray → List (S140) → Option (Bool)
  | 0, _, _, _, _ => none
  | k + 1, x3, x4, x801a, x801b => if x4 < (x801b.length : Int) then (if x3 < 1048576 then (if 0 ≤ x4 then ((w0_UnitWeight.f k ((q140 x801b x4).f0) ((q140 x801b x4).f1) ((q140 x801b x4).f2) ((q140 x801b x4).f3)).bind fun t803 => (w12_Heavy.l0 k (wrap64 (x3 + t803)) (wrap64 (x4 + 1)) x801a x801b)) else (none)) else (some (decide (x3 > 900)))) else (some (decide (x3 > 900)))
def w12_Heavy.f (k : Nat) (l0_0 : List ByteArray) (l0_1 : List (S140)) : Option (Bool) := (w0_Texts.f k l0_0).bind fun t801 => (w12_Heavy.l0 k (wrap64 ((l0_1.length : Int) + (wrap64 (Int.tdiv t801 16)))) 0 l0_0 l0_1)
theorem w12_Heavy.calls (k : Nat) (A0_0 : Option Addr) (c0_0 : Nat) (l0_0 : List ByteArray) (A0_1 : Option Addr) (c0_1 : Nat) (l0_1 : List (S140)) (r : Bool) (w : World) (hr0_0 : Kd.C Kd.string w A0_0 l0_0.length l0_0) (hc0_0 : l0_0.length ≤ c0_0) (hr0_1 : Kd.C k140 w A0_1 l0_1.length l0_1) (hc0_1 : l0_1.length ≤ c0_1) (h : w12_Heavy.f k l0_0 l0_1 = some r) :
    Calls Try.prog 109 #[.agg #[.slice A0_0 l0_0.length c0_0, .slice A0_1 l0_1.length c0_1]] w fun e w' => e = .returned (.bool r) ∧ Below w.heap.size w w' := by
 have hu61 := Try.underlying61
 have hu140 := Try.underlying140
 have HR0_0 := aM_ hr0_0
 have HC0_0 := aM_ hc0_0
 clear hr0_0 hc0_0
 have HR0_1 := aM_ hr0_1
 have HC0_1 := aM_ hc0_1
 clear hr0_1 hc0_1
 have HB := aM_ (Below.refl w.heap.size w)
 have H : ((w0_Texts.f k l0_0).bind fun t801 => (w12_Heavy.l0 k (wrap64 ((l0_1.length : Int) + (wrap64 (Int.tdiv t801 16)))) 0 l0_0 l0_1)) = some r := h
 clear h
 replace H := oB_ H
 obtain ⟨t801, A2, H⟩ := H
 replace H := aM_ H
 go_enter Try.func109, Try.ntmps109
 go_wp2_with (first | ((with_reducible refine gate_dst (N := 1) rfl ?_); refine bX_ (N := 1) (cs := #[.slice A0_0 l0_0.length c0_0, .slice A0_1 l0_1.length c0_1]) (t := 61) ?_; intro gb800 hg w3 hbox hb; replace BK800 := aM_ (hbox); replace GW800 := aM_ (gE_ hg (bl_ HB)); replace GE800 := aM_ (gE_ hg (bl_ HB)); replace HB := aM_ (bT_ (bl_ HB) hb); clear hb hbox hg; have hcz4_0 : w3.cell? ⟨gb800, 0, none⟩ = some (.slice A0_0 l0_0.length c0_0) := (bC_ BK800.out 0).trans rfl; have hcz4_1 : w3.cell? ⟨gb800, 1, none⟩ = some (.slice A0_1 l0_1.length c0_1) := (bC_ BK800.out 1).trans rfl; have hfz4_0 := bZ_ BK800.out 0; have hfz4_1 := bZ_ BK800.out 1) | (go_at_call 124; (with_reducible refine (w0_Texts.calls k _ _ l0_0 t801 _ ?side1 ?side2 A2.out).mono ?_); (case side1 => exact rC_ (Kd.C_below HR0_0.out HB.out)); (case side2 => exact HC0_0.out); rintro e w' ⟨rfl, ⟨nd, rfl⟩⟩; (try first | exact ⟨rfl, _, dN_⟩ | exact ⟨rfl, _, dT_⟩)))
 repeat (go_quiet (first | ((with_reducible refine gate_dst (N := 1) rfl ?_); refine bX_ (N := 1) (cs := #[.slice A0_0 l0_0.length c0_0, .slice A0_1 l0_1.length c0_1]) (t := 61) ?_; intro gb800 hg w3 hbox hb; replace BK800 := aM_ (hbox); replace GW800 := aM_ (gE_ hg (bl_ HB)); replace GE800 := aM_ (gE_ hg (bl_ HB)); replace HB := aM_ (bT_ (bl_ HB) hb); clear hb hbox hg; have hcz4_0 : w3.cell? ⟨gb800, 0, none⟩ = some (.slice A0_0 l0_0.length c0_0) := (bC_ BK800.out 0).trans rfl; have hcz4_1 : w3.cell? ⟨gb800, 1, none⟩ = some (.slice A0_1 l0_1.length c0_1) := (bC_ BK800.out 1).trans rfl; have hfz4_0 := bZ_ BK800.out 0; have hfz4_1 := bZ_ BK800.out 1) | (go_at_call 124; (with_reducible refine (w0_Texts.calls k _ _ l0_0 t801 _ ?side1 ?side2 A2.out).mono ?_); (case side1 => exact rC_ (Kd.C_below HR0_0.out HB.out)); (case side2 => exact HC0_0.out); rintro e w' ⟨rfl, ⟨nd, rfl⟩⟩; (try first | exact ⟨rfl, _, dN_⟩ | exact ⟨rfl, _, dT_⟩))); try go_wp2_with (first | ((with_reducible refine gate_dst (N := 1) rfl ?_); refine bX_ (N := 1) (cs := #[.slice A0_0 l0_0.length c0_0, .slice A0_1 l0_1.length c0_1]) (t := 61) ?_; intro gb800 hg w3 hbox hb; replace BK800 := aM_ (hbox); replace GW800 := aM_ (gE_ hg (bl_ HB)); replace GE800 := aM_ (gE_ hg (bl_ HB)); replace HB := aM_ (bT_ (bl_ HB) hb); clear hb hbox hg; have hcz4_0 : w3.cell? ⟨gb800, 0, none⟩ = some (.slice A0_0 l0_0.length c0_0) := (bC_ BK800.out 0).trans rfl; have hcz4_1 : w3.cell? ⟨gb800, 1, none⟩ = some (.slice A0_1 l0_1.length c0_1) := (bC_ BK800.out 1).trans rfl; have hfz4_0 := bZ_ BK800.out 0; have hfz4_1 := bZ_ BK800.out 1) | (go_at_call 124; (with_reducible refine (w0_Texts.calls k _ _ l0_0 t801 _ ?side1 ?side2 A2.out).mono ?_); (case side1 => exact rC_ (Kd.C_below HR0_0.out HB.out)); (case side2 => exact HC0_0.out); rintro e w' ⟨rfl, ⟨nd, rfl⟩⟩; (try first | exact ⟨rfl, _, dN_⟩ | exact ⟨rfl, _, dT_⟩))))
 go_loopg [3, 4] k (fun kq v3 v4 w' => ∃ (x3_1 : Int) (x4_1 : Int), v3 = .int .i64 x3_1 ∧ v4 = .int .i64 x4_1 ∧ As_ (w12_Heavy.l0 kq x3_1 x4_1 l0_0 l0_1 = some r) ∧ As_ (kq ≤ k) ∧ As_ (w'.heap[gb800]? = some (.cells #[(.slice A0_0 l0_0.length c0_0), (.slice A0_1 l0_1.length c0_1)] 61 (0, 0))) ∧ As_ (Below w.heap.size w w'))
 case atStart => exact ⟨(wrap64 ((l0_1.length : Int) + (wrap64 (Int.tdiv t801 16)))), (0), eQ_, eQ_, H, ⟨Nat.le_refl _⟩, ⟨rB_ BK800⟩, ⟨bs_ HB GE800⟩⟩
 case round =>
  clear H
  obtain ⟨x3_1, x4_1, rfl, rfl, HA, HK1, BK800, HB⟩ := hrel
  cases gk with
  | zero => exact absurd HA.out (by simp [w12_Heavy.l0])
  | succ k1 =>
   have H := HA.out
   clear HA
   simp only [w12_Heavy.l0] at H
   by_cases c5 : x4_1 < (l0_1.length : Int)
   ·rw [if_pos c5] at H
    have c5b0 := dE_ c5
    clear c5
    by_cases c6 : x3_1 < 1048576
    ·rw [if_pos c6] at H
     have c6b0 := dE_ c6
     clear c6
     by_cases c7 : 0 ≤ x4_1
     ·rw [if_pos c7] at H
      have c7b0 := dE_ c7
      clear c7
      replace H := oB_ H
      obtain ⟨t803, A8, H⟩ := H
      replace H := aM_ H
      have hcz9_0 : wr.cell? ⟨gb800, 0, none⟩ = some (.slice A0_0 l0_0.length c0_0) := (bC_ BK800.out 0).trans rfl
      have hcz9_1 : wr.cell? ⟨gb800, 1, none⟩ = some (.slice A0_1 l0_1.length c0_1) := (bC_ BK800.out 1).trans rfl
      have hfz9_0 := bZ_ BK800.out 0
      have hfz9_1 := bZ_ BK800.out 1
      have p802 : 0 ≤ (x4_1 : Int) := oD_
      have q802 : x4_1 < (l0_1.length : Int) := oD_
      obtain ⟨ad802, A802_0, c802_0, A802_1, c802_1, A802_2, c802_2, A802_3, c802_3, e802, hx802_0, hx802_1, hx802_2, hx802_3, hl802_0, hi802_0, hl802_1, hi802_1, hl802_2, hi802_2, hl802_3, hi802_3⟩ := at_T140 HR0_1.out x4_1 p802 q802
      cases e802
      replace hx802_0 := hC_ HB hx802_0
      replace hx802_1 := hC_ HB hx802_1
      replace hx802_2 := hC_ HB hx802_2
      replace hx802_3 := hC_ HB hx802_3
      have HR802_0 := aM_ hi802_0
      have HC802_0 := aM_ hl802_0
      clear hi802_0 hl802_0
      have HR802_1 := aM_ hi802_1
      have HC802_1 := aM_ hl802_1
      clear hi802_1 hl802_1
      have HR802_2 := aM_ hi802_2
      have HC802_2 := aM_ hl802_2
      clear hi802_2 hl802_2
      have HR802_3 := aM_ hi802_3
      have HC802_3 := aM_ hl802_3
      clear hi802_3 hl802_3
      replace p802 := eq_true p802
      replace q802 := eq_true q802
      go_wp2_with (first | (go_at_call 125; (with_reducible refine (w0_UnitWeight.calls k1 _ _ ((q140 l0_1 x4_1).f0) _ _ ((q140 l0_1 x4_1).f1) _ _ ((q140 l0_1 x4_1).f2) _ _ ((q140 l0_1 x4_1).f3) t803 _ ?side1 ?side2 ?side3 ?side4 ?side5 ?side6 ?side7 ?side8 A8.out).mono ?_); (case side1 => exact rC_ (Kd.C_below HR802_0.out HB.out)); (case side2 => exact HC802_0.out); (case side3 => exact rC_ (Kd.C_below HR802_1.out HB.out)); (case side4 => exact HC802_1.out); (case side5 => exact rC_ (Kd.C_below HR802_2.out HB.out)); (case side6 => exact HC802_2.out); (case side7 => exact rC_ (Kd.C_below HR802_3.out HB.out)); (case side8 => exact HC802_3.out); rintro e w10 ⟨rfl, hb⟩; replace BK800 := aM_ (kB_ (rB_ BK800) hb); replace HB := aM_ (bT_ (bs_ HB GE800) hb)))
      repeat (go_quiet (first | (go_at_call 125; (with_reducible refine (w0_UnitWeight.calls k1 _ _ ((q140 l0_1 x4_1).f0) _ _ ((q140 l0_1 x4_1).f1) _ _ ((q140 l0_1 x4_1).f2) _ _ ((q140 l0_1 x4_1).f3) t803 _ ?side1 ?side2 ?side3 ?side4 ?side5 ?side6 ?side7 ?side8 A8.out).mono ?_); (case side1 => exact rC_ (Kd.C_below HR802_0.out HB.out)); (case side2 => exact HC802_0.out); (case side3 => exact rC_ (Kd.C_below HR802_1.out HB.out)); (case side4 => exact HC802_1.out); (case side5 => exact rC_ (Kd.C_below HR802_2.out HB.out)); (case side6 => exact HC802_2.out); (case side7 => exact rC_ (Kd.C_below HR802_3.out HB.out)); (case side8 => exact HC802_3.out); rintro e w10 ⟨rfl, hb⟩; replace BK800 := aM_ (kB_ (rB_ BK800) hb); replace HB := aM_ (bT_ (bs_ HB GE800) hb))); try go_wp2_with (first | (go_at_call 125; (with_reducible refine (w0_UnitWeight.calls k1 _ _ ((q140 l0_1 x4_1).f0) _ _ ((q140 l0_1 x4_1).f1) _ _ ((q140 l0_1 x4_1).f2) _ _ ((q140 l0_1 x4_1).f3) t803 _ ?side1 ?side2 ?side3 ?side4 ?side5 ?side6 ?side7 ?side8 A8.out).mono ?_); (case side1 => exact rC_ (Kd.C_below HR802_0.out HB.out)); (case side2 => exact HC802_0.out); (case side3 => exact rC_ (Kd.C_below HR802_1.out HB.out)); (case side4 => exact HC802_1.out); (case side5 => exact rC_ (Kd.C_below HR802_2.out HB.out)); (case side6 => exact HC802_2.out); (case side7 => exact rC_ (Kd.C_below HR802_3.out HB.out)); (case side8 => exact HC802_3.out); rintro e w10 ⟨rfl, hb⟩; replace BK800 := aM_ (kB_ (rB_ BK800) hb); replace HB := aM_ (bT_ (bs_ HB GE800) hb))))
      go_roundg k1
      case measure => have := HK1.out; omega
      case rel => exact ⟨(wrap64 (x3_1 + t803)), (wrap64 (x4_1 + 1)), eQ_, eQ_, H, ⟨by have := HK1.out; omega⟩, ⟨rB_ BK800⟩, ⟨bs_ HB GE800⟩⟩
     rw [if_neg c7] at H
     exact absurd H (by simp)
    rw [if_neg c6] at H
    have c6b0 := dF_ c6
    clear c6
    obtain rfl := oI_ H
    have hcz11_0 : wr.cell? ⟨gb800, 0, none⟩ = some (.slice A0_0 l0_0.length c0_0) := (bC_ BK800.out 0).trans rfl
    have hcz11_1 : wr.cell? ⟨gb800, 1, none⟩ = some (.slice A0_1 l0_1.length c0_1) := (bC_ BK800.out 1).trans rfl
    have hfz11_0 := bZ_ BK800.out 0
    have hfz11_1 := bZ_ BK800.out 1
    go_wp2
    repeat (go_quiet (fail); try go_wp2)
    go_ret
    exact ⟨eR_, bs_ HB GE800⟩
   rw [if_neg c5] at H
   have c5b0 := dF_ c5
   clear c5
   obtain rfl := oI_ H
   have hcz12_0 : wr.cell? ⟨gb800, 0, none⟩ = some (.slice A0_0 l0_0.length c0_0) := (bC_ BK800.out 0).trans rfl
   have hcz12_1 : wr.cell? ⟨gb800, 1, none⟩ = some (.slice A0_1 l0_1.length c0_1) := (bC_ BK800.out 1).trans rfl
   have hfz12_0 := bZ_ BK800.out 0
   have hfz12_1 := bZ_ BK800.out 1
   go_wp2
   repeat (go_quiet (fail); try go_wp2)
   go_ret
   exact ⟨eR_, bs_ HB GE800⟩
def w13_Heavy.l0 : Nat → Int → Int → List ByteArray → List (S140) → List (S73) → Option (Bool)
  | 0, _, _, _, _, _ => none
  | k + 1, x3, x4, x805a, x805b, x805c => if x4 < (x805c.length : Int) then (if x3 < 1048576 then (if 0 ≤ x4 then (w13_Heavy.l0 k (wrap64 ((wrap64 (x3 + (((q73 x805c x4).f0).length : Int))) + (((q73 x805c x4).f1).length : Int))) (wrap64 (x4 + 1)) x805a x805b x805c) else (none)) else (if x3 > 400 then (some true) else ((w12_Heavy.f k x805a x805b).bind fun t807 => (some t807)))) else (if x3 > 400 then (some true) else ((w12_Heavy.f k x805a x805b).bind fun t808 => (some t808)))
def w13_Heavy.f (k : Nat) (l0_0 : List ByteArray) (l0_1 : List (S140)) (l0_2 : List (S73)) : Option (Bool) := w13_Heavy.l0 k (l0_2.length : Int) 0 l0_0 l0_1 l0_2
theorem w13_Heavy.calls (k : Nat) (A0_0 : Option Addr) (c0_0 : Nat) (l0_0 : List ByteArray) (A0_1 : Option Addr) (c0_1 : Nat) (l0_1 : List (S140)) (A0_2 : Option Addr) (c0_2 : Nat) (l0_2 : List (S73)) (r : Bool) (w : World) (hr0_0 : Kd.C Kd.string w A0_0 l0_0.length l0_0) (hc0_0 : l0_0.length ≤ c0_0) (hr0_1 : Kd.C k140 w A0_1 l0_1.length l0_1) (hc0_1 : l0_1.length ≤ c0_1) (hr0_2 : Kd.C k73 w A0_2 l0_2.length l0_2) (hc0_2 : l0_2.length ≤ c0_2) (h : w13_Heavy.f k l0_0 l0_1 l0_2 = some r) :
    Calls Try.prog 80 #[.agg #[.slice A0_0 l0_0.length c0_0, .slice A0_1 l0_1.length c0_1, .slice A0_2 l0_2.length c0_2]] w fun e w' => e = .returned (.bool r) ∧ Below w.heap.size w w' := by
 have hu64 := Try.underlying64
 have hu61 := Try.underlying61
 have HR0_0 := aM_ hr0_0
 have HC0_0 := aM_ hc0_0
 clear hr0_0 hc0_0
 have HR0_1 := aM_ hr0_1
 have HC0_1 := aM_ hc0_1
 clear hr0_1 hc0_1
 have HR0_2 := aM_ hr0_2
 have HC0_2 := aM_ hc0_2
 clear hr0_2 hc0_2
 have HB := aM_ (Below.refl w.heap.size w)
 have H : (w13_Heavy.l0 k (l0_2.length : Int) 0 l0_0 l0_1 l0_2) = some r := h
 clear h
 replace H := aM_ H
 go_enter Try.func80, Try.ntmps80
 go_wp2_with (first | ((with_reducible refine gate_dst (N := 1) rfl ?_); refine bX_ (N := 1) (cs := #[.slice A0_0 l0_0.length c0_0, .slice A0_1 l0_1.length c0_1, .slice A0_2 l0_2.length c0_2]) (t := 64) ?_; intro gb804 hg w2 hbox hb; replace BK804 := aM_ (hbox); replace GW804 := aM_ (gE_ hg (bl_ HB)); replace GE804 := aM_ (gE_ hg (bl_ HB)); replace HB := aM_ (bT_ (bl_ HB) hb); clear hb hbox hg; obtain ⟨hcz3_0, hcz3_1, hcz3_2⟩ := cl3_ BK804.out; obtain ⟨hfz3_0, hfz3_1, hfz3_2⟩ := fz3_ BK804.out))
 repeat (go_quiet (first | ((with_reducible refine gate_dst (N := 1) rfl ?_); refine bX_ (N := 1) (cs := #[.slice A0_0 l0_0.length c0_0, .slice A0_1 l0_1.length c0_1, .slice A0_2 l0_2.length c0_2]) (t := 64) ?_; intro gb804 hg w2 hbox hb; replace BK804 := aM_ (hbox); replace GW804 := aM_ (gE_ hg (bl_ HB)); replace GE804 := aM_ (gE_ hg (bl_ HB)); replace HB := aM_ (bT_ (bl_ HB) hb); clear hb hbox hg; obtain ⟨hcz3_0, hcz3_1, hcz3_2⟩ := cl3_ BK804.out; obtain ⟨hfz3_0, hfz3_1, hfz3_2⟩ := fz3_ BK804.out)); try go_wp2_with (first | ((with_reducible refine gate_dst (N := 1) rfl ?_); refine bX_ (N := 1) (cs := #[.slice A0_0 l0_0.length c0_0, .slice A0_1 l0_1.length c0_1, .slice A0_2 l0_2.length c0_2]) (t := 64) ?_; intro gb804 hg w2 hbox hb; replace BK804 := aM_ (hbox); replace GW804 := aM_ (gE_ hg (bl_ HB)); replace GE804 := aM_ (gE_ hg (bl_ HB)); replace HB := aM_ (bT_ (bl_ HB) hb); clear hb hbox hg; obtain ⟨hcz3_0, hcz3_1, hcz3_2⟩ := cl3_ BK804.out; obtain ⟨hfz3_0, hfz3_1, hfz3_2⟩ := fz3_ BK804.out)))
 go_loopg [3, 4] k (fun kq v3 v4 w' => ∃ (x3_1 : Int) (x4_1 : Int), v3 = .int .i64 x3_1 ∧ v4 = .int .i64 x4_1 ∧ As_ (w13_Heavy.l0 kq x3_1 x4_1 l0_0 l0_1 l0_2 = some r) ∧ As_ (kq ≤ k) ∧ As_ (w'.heap[gb804]? = some (.cells #[(.slice A0_0 l0_0.length c0_0), (.slice A0_1 l0_1.length c0_1), (.slice A0_2 l0_2.length c0_2)] 64 (0, 0))) ∧ As_ (Below w.heap.size w w'))
 case atStart => exact ⟨((l0_2.length : Int)), (0), eQ_, eQ_, H, ⟨Nat.le_refl _⟩, ⟨rB_ BK804⟩, ⟨bs_ HB GE804⟩⟩
 case round =>
  clear H
  obtain ⟨x3_1, x4_1, rfl, rfl, HA, HK1, BK804, HB⟩ := hrel
  cases gk with
  | zero => exact absurd HA.out (by simp [w13_Heavy.l0])
  | succ k1 =>
   have H := HA.out
   clear HA
   simp only [w13_Heavy.l0] at H
   by_cases c4 : x4_1 < (l0_2.length : Int)
   ·rw [if_pos c4] at H
    have c4b0 := dE_ c4
    clear c4
    by_cases c5 : x3_1 < 1048576
    ·rw [if_pos c5] at H
     have c5b0 := dE_ c5
     clear c5
     by_cases c6 : 0 ≤ x4_1
     ·rw [if_pos c6] at H
      have c6b0 := dE_ c6
      clear c6
      replace H := aM_ H
      obtain ⟨hcz7_0, hcz7_1, hcz7_2⟩ := cl3_ BK804.out
      obtain ⟨hfz7_0, hfz7_1, hfz7_2⟩ := fz3_ BK804.out
      have p805 : 0 ≤ (x4_1 : Int) := oD_
      have q805 : x4_1 < (l0_2.length : Int) := oD_
      obtain ⟨ad805, A805_0, c805_0, A805_1, c805_1, e805, hx805_0, hx805_1, hx805_2, hx805_3, hx805_4, hx805_5, hx805_6, hx805_7, hl805_0, hi805_0, hl805_1, hi805_1⟩ := at_T73 HR0_2.out x4_1 p805 q805
      cases e805
      replace hx805_0 := hC_ HB hx805_0
      replace hx805_1 := hC_ HB hx805_1
      replace hx805_2 := hC_ HB hx805_2
      replace hx805_3 := hC_ HB hx805_3
      replace hx805_4 := hC_ HB hx805_4
      replace hx805_5 := hC_ HB hx805_5
      replace hx805_6 := hC_ HB hx805_6
      replace hx805_7 := hC_ HB hx805_7
      have HR805_0 := aM_ hi805_0
      have HC805_0 := aM_ hl805_0
      clear hi805_0 hl805_0
      have HR805_1 := aM_ hi805_1
      have HC805_1 := aM_ hl805_1
      clear hi805_1 hl805_1
      replace p805 := eq_true p805
      replace q805 := eq_true q805
      have p806 : 0 ≤ (x4_1 : Int) := oD_
      have q806 : x4_1 < (l0_2.length : Int) := oD_
      obtain ⟨ad806, A806_0, c806_0, A806_1, c806_1, e806, hx806_0, hx806_1, hx806_2, hx806_3, hx806_4, hx806_5, hx806_6, hx806_7, hl806_0, hi806_0, hl806_1, hi806_1⟩ := at_T73 HR0_2.out x4_1 p806 q806
      obtain rfl : ad805 = ad806 := (by injection e806)
      replace hx806_0 := hC_ HB hx806_0
      replace hx806_1 := hC_ HB hx806_1
      replace hx806_2 := hC_ HB hx806_2
      replace hx806_3 := hC_ HB hx806_3
      replace hx806_4 := hC_ HB hx806_4
      replace hx806_5 := hC_ HB hx806_5
      replace hx806_6 := hC_ HB hx806_6
      replace hx806_7 := hC_ HB hx806_7
      have HR806_0 := aM_ hi806_0
      have HC806_0 := aM_ hl806_0
      clear hi806_0 hl806_0
      have HR806_1 := aM_ hi806_1
      have HC806_1 := aM_ hl806_1
      clear hi806_1 hl806_1
      replace p806 := eq_true p806
      replace q806 := eq_true q806
      have ea_ := Option.some.inj (hx805_0.symm.trans hx806_0)
      injection ea_ with ea_ en_ ec_
      subst ea_
      subst ec_
      clear en_
      have ea_ := Option.some.inj (hx805_1.symm.trans hx806_1)
      injection ea_ with ea_ en_ ec_
      subst ea_
      subst ec_
      clear en_
      go_wp2
      repeat (go_quiet (fail); try go_wp2)
      go_roundg k1
      case measure => have := HK1.out; omega
      case rel => exact ⟨(wrap64 ((wrap64 (x3_1 + (((q73 l0_2 x4_1).f0).length : Int))) + (((q73 l0_2 x4_1).f1).length : Int))), (wrap64 (x4_1 + 1)), eQ_, eQ_, H, ⟨by have := HK1.out; omega⟩, ⟨rB_ BK804⟩, ⟨bs_ HB GE804⟩⟩
     rw [if_neg c6] at H
     exact absurd H (by simp)
    rw [if_neg c5] at H
    have c5b0 := dF_ c5
    clear c5
    by_cases c8 : x3_1 > 400
    ·rw [if_pos c8] at H
     have c8b0 := dE_ c8
     clear c8
     obtain rfl := oI_ H
     obtain ⟨hcz9_0, hcz9_1, hcz9_2⟩ := cl3_ BK804.out
     obtain ⟨hfz9_0, hfz9_1, hfz9_2⟩ := fz3_ BK804.out
     go_wp2
     repeat (go_quiet (fail); try go_wp2)
     go_ret
     exact ⟨eR_, bs_ HB GE804⟩
    rw [if_neg c8] at H
    have c8b0 := dF_ c8
    clear c8
    replace H := oB_ H
    obtain ⟨t807, A10, H⟩ := H
    obtain rfl := oI_ H
    obtain ⟨hcz11_0, hcz11_1, hcz11_2⟩ := cl3_ BK804.out
    obtain ⟨hfz11_0, hfz11_1, hfz11_2⟩ := fz3_ BK804.out
    go_wp2_with (first | (go_at_call 109; (with_reducible refine (w12_Heavy.calls k1 _ _ l0_0 _ _ l0_1 t807 _ ?side1 ?side2 ?side3 ?side4 A10.out).mono ?_); (case side1 => exact rC_ (Kd.C_below HR0_0.out HB.out)); (case side2 => exact HC0_0.out); (case side3 => exact rC_ (Kd.C_below HR0_1.out HB.out)); (case side4 => exact HC0_1.out); rintro e w12 ⟨rfl, hb⟩; replace BK804 := aM_ (kB_ (rB_ BK804) hb); replace HB := aM_ (bT_ (bs_ HB GE804) hb)))
    repeat (go_quiet (first | (go_at_call 109; (with_reducible refine (w12_Heavy.calls k1 _ _ l0_0 _ _ l0_1 t807 _ ?side1 ?side2 ?side3 ?side4 A10.out).mono ?_); (case side1 => exact rC_ (Kd.C_below HR0_0.out HB.out)); (case side2 => exact HC0_0.out); (case side3 => exact rC_ (Kd.C_below HR0_1.out HB.out)); (case side4 => exact HC0_1.out); rintro e w12 ⟨rfl, hb⟩; replace BK804 := aM_ (kB_ (rB_ BK804) hb); replace HB := aM_ (bT_ (bs_ HB GE804) hb))); try go_wp2_with (first | (go_at_call 109; (with_reducible refine (w12_Heavy.calls k1 _ _ l0_0 _ _ l0_1 t807 _ ?side1 ?side2 ?side3 ?side4 A10.out).mono ?_); (case side1 => exact rC_ (Kd.C_below HR0_0.out HB.out)); (case side2 => exact HC0_0.out); (case side3 => exact rC_ (Kd.C_below HR0_1.out HB.out)); (case side4 => exact HC0_1.out); rintro e w12 ⟨rfl, hb⟩; replace BK804 := aM_ (kB_ (rB_ BK804) hb); replace HB := aM_ (bT_ (bs_ HB GE804) hb))))
    go_ret
    exact ⟨eR_, bs_ HB GE804⟩
   rw [if_neg c4] at H
   have c4b0 := dF_ c4
   clear c4
   by_cases c13 : x3_1 > 400
   ·rw [if_pos c13] at H
    have c13b0 := dE_ c13
    clear c13
    obtain rfl := oI_ H
    obtain ⟨hcz14_0, hcz14_1, hcz14_2⟩ := cl3_ BK804.out
    obtain ⟨hfz14_0, hfz14_1, hfz14_2⟩ := fz3_ BK804.out
    go_wp2
    repeat (go_quiet (fail); try go_wp2)
    go_ret
    exact ⟨eR_, bs_ HB GE804⟩
   rw [if_neg c13] at H
   have c13b0 := dF_ c13
   clear c13
   replace H := oB_ H
   obtain ⟨t808, A15, H⟩ := H
   obtain rfl := oI_ H
   obtain ⟨hcz16_0, hcz16_1, hcz16_2⟩ := cl3_ BK804.out
   obtain ⟨hfz16_0, hfz16_1, hfz16_2⟩ := fz3_ BK804.out
   go_wp2_with (first | (go_at_call 109; (with_reducible refine (w12_Heavy.calls k1 _ _ l0_0 _ _ l0_1 t808 _ ?side1 ?side2 ?side3 ?side4 A15.out).mono ?_); (case side1 => exact rC_ (Kd.C_below HR0_0.out HB.out)); (case side2 => exact HC0_0.out); (case side3 => exact rC_ (Kd.C_below HR0_1.out HB.out)); (case side4 => exact HC0_1.out); rintro e w17 ⟨rfl, hb⟩; replace BK804 := aM_ (kB_ (rB_ BK804) hb); replace HB := aM_ (bT_ (bs_ HB GE804) hb)))
   repeat (go_quiet (first | (go_at_call 109; (with_reducible refine (w12_Heavy.calls k1 _ _ l0_0 _ _ l0_1 t808 _ ?side1 ?side2 ?side3 ?side4 A15.out).mono ?_); (case side1 => exact rC_ (Kd.C_below HR0_0.out HB.out)); (case side2 => exact HC0_0.out); (case side3 => exact rC_ (Kd.C_below HR0_1.out HB.out)); (case side4 => exact HC0_1.out); rintro e w17 ⟨rfl, hb⟩; replace BK804 := aM_ (kB_ (rB_ BK804) hb); replace HB := aM_ (bT_ (bs_ HB GE804) hb))); try go_wp2_with (first | (go_at_call 109; (with_reducible refine (w12_Heavy.calls k1 _ _ l0_0 _ _ l0_1 t808 _ ?side1 ?side2 ?side3 ?side4 A15.out).mono ?_); (case side1 => exact rC_ (Kd.C_below HR0_0.out HB.out)); (case side2 => exact HC0_0.out); (case side3 => exact rC_ (Kd.C_below HR0_1.out HB.out)); (case side4 => exact HC0_1.out); rintro e w17 ⟨rfl, hb⟩; replace BK804 := aM_ (kB_ (rB_ BK804) hb); replace HB := aM_ (bT_ (bs_ HB GE804) hb))))
   go_ret
   exact ⟨eR_, bs_ HB GE804⟩
def w15_Heavy.f (k : Nat) (l0_0 : List (S24)) (a0_1 : Int) (a0_2 : Int) (a0_3 : Int) (a0_4 : Int) (a0_5 : Int) (a0_6 : ByteArray) (l0_7 : List Int) (l0_8 : List ByteArray) (l0_9 : List (S140)) (l0_10 : List (S73)) (l0_11 : List (S81)) : Option (Bool) := if (l0_11.length : Int) > 100 then (some true) else ((w14_Heavy.f k l0_0 a0_1 a0_2 a0_3 a0_4 a0_5 a0_6 l0_7).bind fun t810 => (if t810 = true then (some true) else ((w13_Heavy.f k l0_8 l0_9 l0_10).bind fun t811 => (some t811))))
theorem w15_Heavy.calls (k : Nat) (A0_0 : Option Addr) (c0_0 : Nat) (l0_0 : List (S24)) (a0_1 : Int) (a0_2 : Int) (a0_3 : Int) (a0_4 : Int) (a0_5 : Int) (a0_6 : ByteArray) (A0_7 : Option Addr) (c0_7 : Nat) (l0_7 : List Int) (A0_8 : Option Addr) (c0_8 : Nat) (l0_8 : List ByteArray) (A0_9 : Option Addr) (c0_9 : Nat) (l0_9 : List (S140)) (A0_10 : Option Addr) (c0_10 : Nat) (l0_10 : List (S73)) (A0_11 : Option Addr) (c0_11 : Nat) (l0_11 : List (S81)) (r : Bool) (w : World) (hr0_0 : Kd.C k24 w A0_0 l0_0.length l0_0) (hc0_0 : l0_0.length ≤ c0_0) (hr0_7 : Kd.C (Kd.int .i64) w A0_7 l0_7.length l0_7) (hc0_7 : l0_7.length ≤ c0_7) (hr0_8 : Kd.C Kd.string w A0_8 l0_8.length l0_8) (hc0_8 : l0_8.length ≤ c0_8) (hr0_9 : Kd.C k140 w A0_9 l0_9.length l0_9) (hc0_9 : l0_9.length ≤ c0_9) (hr0_10 : Kd.C k73 w A0_10 l0_10.length l0_10) (hc0_10 : l0_10.length ≤ c0_10) (hr0_11 : Kd.C k81 w A0_11 l0_11.length l0_11) (hc0_11 : l0_11.length ≤ c0_11) (h : w15_Heavy.f k l0_0 a0_1 a0_2 a0_3 a0_4 a0_5 a0_6 l0_7 l0_8 l0_9 l0_10 l0_11 = some r) :
    Calls Try.prog 49 #[.agg #[.slice A0_0 l0_0.length c0_0, .int .i64 a0_1, .int .i64 a0_2, .int .i64 a0_3, .int .i64 a0_4, .int .i64 a0_5, .string a0_6, .slice A0_7 l0_7.length c0_7, .slice A0_8 l0_8.length c0_8, .slice A0_9 l0_9.length c0_9, .slice A0_10 l0_10.length c0_10, .slice A0_11 l0_11.length c0_11]] w fun e w' => e = .returned (.bool r) ∧ Below w.heap.size w w' := by
 have hu67 := Try.underlying67
 have hu27 := Try.underlying27
 have hu64 := Try.underlying64
 have HR0_0 := aM_ hr0_0
 have HC0_0 := aM_ hc0_0
 clear hr0_0 hc0_0
 have HR0_7 := aM_ hr0_7
 have HC0_7 := aM_ hc0_7
 clear hr0_7 hc0_7
 have HR0_8 := aM_ hr0_8
 have HC0_8 := aM_ hc0_8
 clear hr0_8 hc0_8
 have HR0_9 := aM_ hr0_9
 have HC0_9 := aM_ hc0_9
 clear hr0_9 hc0_9
 have HR0_10 := aM_ hr0_10
 have HC0_10 := aM_ hc0_10
 clear hr0_10 hc0_10
 have HR0_11 := aM_ hr0_11
 have HC0_11 := aM_ hc0_11
 clear hr0_11 hc0_11
 have HB := aM_ (Below.refl w.heap.size w)
 have H : (if (l0_11.length : Int) > 100 then (some true) else ((w14_Heavy.f k l0_0 a0_1 a0_2 a0_3 a0_4 a0_5 a0_6 l0_7).bind fun t810 => (if t810 = true then (some true) else ((w13_Heavy.f k l0_8 l0_9 l0_10).bind fun t811 => (some t811))))) = some r := h
 clear h
 by_cases c2 : (l0_11.length : Int) > 100
 ·rw [if_pos c2] at H
  have c2b0 := dE_ c2
  have c2b1 : decide (100 < l0_11.length) = true := decide_eq_true (by omega)
  clear c2
  obtain rfl := oI_ H
  go_enter Try.func49, Try.ntmps49
  go_wp2_with (first | ((with_reducible refine gate_dst (N := 1) rfl ?_); refine bX_ (N := 1) (cs := #[.slice A0_0 l0_0.length c0_0, .int .i64 a0_1, .int .i64 a0_2, .int .i64 a0_3, .int .i64 a0_4, .int .i64 a0_5, .string a0_6, .slice A0_7 l0_7.length c0_7, .slice A0_8 l0_8.length c0_8, .slice A0_9 l0_9.length c0_9, .slice A0_10 l0_10.length c0_10, .slice A0_11 l0_11.length c0_11]) (t := 67) ?_; intro gb809 hg w3 hbox hb; replace BK809 := aM_ (hbox); replace GW809 := aM_ (gE_ hg (bl_ HB)); replace GE809 := aM_ (gE_ hg (bl_ HB)); replace HB := aM_ (bT_ (bl_ HB) hb); clear hb hbox hg; obtain ⟨hcz4_0, hcz4_1, hcz4_2, hcz4_3, hcz4_4, hcz4_5, hcz4_6, hcz4_7, hcz4_8, hcz4_9, hcz4_10, hcz4_11⟩ := cl12_ BK809.out; obtain ⟨hfz4_0, hfz4_1, hfz4_2, hfz4_3, hfz4_4, hfz4_5, hfz4_6, hfz4_7, hfz4_8, hfz4_9, hfz4_10, hfz4_11⟩ := fz12_ BK809.out))
  go_ret
  exact ⟨eR_, bs_ HB GE809⟩
 rw [if_neg c2] at H
 have c2b0 := dF_ c2
 have c2b1 : decide (100 < l0_11.length) = false := decide_eq_false (by omega)
 clear c2
 replace H := oB_ H
 obtain ⟨t810, A5, H⟩ := H
 by_cases c6 : t810 = true
 ·subst c6
  rw [if_pos rfl] at H
  obtain rfl := oI_ H
  go_enter Try.func49, Try.ntmps49
  go_wp2_with (first | ((with_reducible refine gate_dst (N := 1) rfl ?_); refine bX_ (N := 1) (cs := #[.slice A0_0 l0_0.length c0_0, .int .i64 a0_1, .int .i64 a0_2, .int .i64 a0_3, .int .i64 a0_4, .int .i64 a0_5, .string a0_6, .slice A0_7 l0_7.length c0_7, .slice A0_8 l0_8.length c0_8, .slice A0_9 l0_9.length c0_9, .slice A0_10 l0_10.length c0_10, .slice A0_11 l0_11.length c0_11]) (t := 67) ?_; intro gb809 hg w7 hbox hb; replace BK809 := aM_ (hbox); replace GW809 := aM_ (gE_ hg (bl_ HB)); replace GE809 := aM_ (gE_ hg (bl_ HB)); replace HB := aM_ (bT_ (bl_ HB) hb); clear hb hbox hg; obtain ⟨hcz8_0, hcz8_1, hcz8_2, hcz8_3, hcz8_4, hcz8_5, hcz8_6, hcz8_7, hcz8_8, hcz8_9, hcz8_10, hcz8_11⟩ := cl12_ BK809.out; obtain ⟨hfz8_0, hfz8_1, hfz8_2, hfz8_3, hfz8_4, hfz8_5, hfz8_6, hfz8_7, hfz8_8, hfz8_9, hfz8_10, hfz8_11⟩ := fz12_ BK809.out) | (go_at_call 28; (with_reducible refine (w14_Heavy.calls k _ _ l0_0 a0_1 a0_2 a0_3 a0_4 a0_5 a0_6 _ _ l0_7 true _ ?side1 ?side2 ?side3 ?side4 A5.out).mono ?_); (case side1 => exact rC_ (Kd.C_below HR0_0.out HB.out)); (case side2 => exact HC0_0.out); (case side3 => exact rC_ (Kd.C_below HR0_7.out HB.out)); (case side4 => exact HC0_7.out); rintro e w9 ⟨rfl, hb⟩; replace BK809 := aM_ (kB_ (rB_ BK809) hb); replace HB := aM_ (bT_ (bs_ HB GE809) hb)))
  go_ret
  exact ⟨eR_, bs_ HB GE809⟩
 replace c6 := eF_ c6
 subst c6
 rw [if_neg Bool.false_ne_true] at H
 replace H := oB_ H
 obtain ⟨t811, A10, H⟩ := H
 obtain rfl := oI_ H
 go_enter Try.func49, Try.ntmps49
 go_wp2_with (first | ((with_reducible refine gate_dst (N := 1) rfl ?_); refine bX_ (N := 1) (cs := #[.slice A0_0 l0_0.length c0_0, .int .i64 a0_1, .int .i64 a0_2, .int .i64 a0_3, .int .i64 a0_4, .int .i64 a0_5, .string a0_6, .slice A0_7 l0_7.length c0_7, .slice A0_8 l0_8.length c0_8, .slice A0_9 l0_9.length c0_9, .slice A0_10 l0_10.length c0_10, .slice A0_11 l0_11.length c0_11]) (t := 67) ?_; intro gb809 hg w11 hbox hb; replace BK809 := aM_ (hbox); replace GW809 := aM_ (gE_ hg (bl_ HB)); replace GE809 := aM_ (gE_ hg (bl_ HB)); replace HB := aM_ (bT_ (bl_ HB) hb); clear hb hbox hg; obtain ⟨hcz12_0, hcz12_1, hcz12_2, hcz12_3, hcz12_4, hcz12_5, hcz12_6, hcz12_7, hcz12_8, hcz12_9, hcz12_10, hcz12_11⟩ := cl12_ BK809.out; obtain ⟨hfz12_0, hfz12_1, hfz12_2, hfz12_3, hfz12_4, hfz12_5, hfz12_6, hfz12_7, hfz12_8, hfz12_9, hfz12_10, hfz12_11⟩ := fz12_ BK809.out) | (go_at_call 28; (with_reducible refine (w14_Heavy.calls k _ _ l0_0 a0_1 a0_2 a0_3 a0_4 a0_5 a0_6 _ _ l0_7 false _ ?side1 ?side2 ?side3 ?side4 A5.out).mono ?_); (case side1 => exact rC_ (Kd.C_below HR0_0.out HB.out)); (case side2 => exact HC0_0.out); (case side3 => exact rC_ (Kd.C_below HR0_7.out HB.out)); (case side4 => exact HC0_7.out); rintro e w13 ⟨rfl, hb⟩; replace BK809 := aM_ (kB_ (rB_ BK809) hb); replace HB := aM_ (bT_ (bs_ HB GE809) hb); obtain ⟨hcz14_0, hcz14_1, hcz14_2, hcz14_3, hcz14_4, hcz14_5, hcz14_6, hcz14_7, hcz14_8, hcz14_9, hcz14_10, hcz14_11⟩ := cl12_ BK809.out; obtain ⟨hfz14_0, hfz14_1, hfz14_2, hfz14_3, hfz14_4, hfz14_5, hfz14_6, hfz14_7, hfz14_8, hfz14_9, hfz14_10, hfz14_11⟩ := fz12_ BK809.out) | (go_at_call 80; (with_reducible refine (w13_Heavy.calls k _ _ l0_8 _ _ l0_9 _ _ l0_10 t811 _ ?side1 ?side2 ?side3 ?side4 ?side5 ?side6 A10.out).mono ?_); (case side1 => exact rC_ (Kd.C_below HR0_8.out HB.out)); (case side2 => exact HC0_8.out); (case side3 => exact rC_ (Kd.C_below HR0_9.out HB.out)); (case side4 => exact HC0_9.out); (case side5 => exact rC_ (Kd.C_below HR0_10.out HB.out)); (case side6 => exact HC0_10.out); rintro e w15 ⟨rfl, hb⟩; replace BK809 := aM_ (kB_ (rB_ BK809) hb); replace HB := aM_ (bT_ (bs_ HB GE809) hb)))
 go_ret
 exact ⟨eR_, bs_ HB GE809⟩
end
end Go.Proofs.Ytibfkkjkahpobaa.PDag
