import Derived.Test.YtibfkkjkahpobaaMx33
import Derived.Test.YtibfkkjkahpobaaMx30
import Derived.Test.YtibfkkjkahpobaaMx35
import Derived.Test.YtibfkkjkahpobaaMx36
set_option linter.unusedVariables false
set_option linter.unusedSimpArgs false
set_option maxHeartbeats 8000000
set_option maxRecDepth 100000
open Go.RowKit Go.Proofs.YtibfkkjkahpobaaW.PrintWords Go.Proofs.YtibfkkjkahpobaaW.PrintLast Go.Proofs.YtibfkkjkahpobaaW.PrintMore
namespace Go.Proofs.Ytibfkkjkahpobaa.PDag
section
attribute [local go_sem] Oper.semAt_some
attribute [local go_sem high] eqA24
def r13_Block.f (k : Nat) (lb : List ByteArray) (l : List S24) (a2 a3 a4 a5 a6 : Int) (a7 : ByteArray) : Option Bool :=
  if lb.isEmpty = true ∧ l.length ≤ 1000000000 then some (mayBlk l ⟨a2, a3, a4, a5, a6, a7⟩) else none
theorem blk_no {l : List S24} (x : S24) (h : mayL l = false) : mayBlk l x = false := by
  unfold mayL at h
  unfold mayBlk
  cases hp : allPlain l with
  | false => rfl
  | true =>
    rw [hp, Bool.and_true] at h
    have h2 : ¬ l.length ≤ 200 := of_decide_eq_false h
    rw [Bool.true_and]
    split
    · exact h
    · rw [decide_eq_false (show ¬ l.length + 1 ≤ 200 by omega)]; simp
theorem r13_Block.calls (k : Nat) (A0_0 : Option Addr) (c0_0 : Nat) (l0_0 : List ByteArray) (A0_1 : Option Addr) (c0_1 : Nat) (l0_1 : List S24) (a0_2 a0_3 a0_4 a0_5 a0_6 : Int) (a0_7 : ByteArray) (r : Bool) (w : World)
    (hr0_0 : Kd.C Kd.string w A0_0 l0_0.length l0_0) (hc0_0 : l0_0.length ≤ c0_0) (hr0_1 : Kd.C k24 w A0_1 l0_1.length l0_1) (hc0_1 : l0_1.length ≤ c0_1) (h : r13_Block.f k l0_0 l0_1 a0_2 a0_3 a0_4 a0_5 a0_6 a0_7 = some r) :
    Calls Try.prog 75 #[.agg #[.slice A0_0 l0_0.length c0_0, .slice A0_1 l0_1.length c0_1, .int .i64 a0_2, .int .i64 a0_3, .int .i64 a0_4, .int .i64 a0_5, .int .i64 a0_6, .string a0_7]] w fun e w' => e = .returned (.bool r) ∧ Below w.heap.size w w' := by
  have hu73 := Try.underlying73
  have hu24 := Try.underlying24
  unfold r13_Block.f at h
  split at h
  · rename_i hg
    obtain ⟨hlb, hlen⟩ := hg
    have hl0 : l0_0 = [] := by simpa using hlb
    subst hl0
    replace h := Option.some.inj h
    have HL := aM_ hr0_1
    generalize hx : (⟨a0_2, a0_3, a0_4, a0_5, a0_6, a0_7⟩ : S24) = x at h
    have e2 : a0_2 = x.f0 := by rw [← hx]
    have e3 : a0_3 = x.f1 := by rw [← hx]
    have e4 : a0_4 = x.f2 := by rw [← hx]
    have e5 : a0_5 = x.f3 := by rw [← hx]
    have e6 : a0_6 = x.f4 := by rw [← hx]
    have e7 : a0_7 = x.f5 := by rw [← hx]
    clear hx
    subst e2 e3 e4 e5 e6 e7
    have HS := aM_ (fun W hW => r13_Straight.calls 700 A0_1 c0_1 l0_1 _ W (Kd.C_below HL.out hW) hc0_1 (straight_eq l0_1 hlen (Nat.le_refl _)))
    have HI := aM_ (fun W => r3_Ins.calls 50 x.f0 x.f1 x.f2 x.f3 x.f4 x.f5 _ W (ref_ins_eq (Nat.le_refl _) x.f0 x.f1 x.f2 x.f3 x.f4 x.f5))
    clear hr0_0 hr0_1 hlb
    rw [show ([] : List ByteArray).length = 0 from rfl]
    cases hm : mayL l0_1 with
    | false =>
      rw [hm] at HS
      have hr := blk_no x hm
      rw [hr] at h
      subst h
      clear hm hr
      go_enter Try.func75, Try.ntmps75
      go_wp2_with (first | ((with_reducible refine gate_dst (N := 1) rfl ?_); refine bX_ (N := 1) (cs := #[.slice A0_0 0 c0_0, .slice A0_1 l0_1.length c0_1, .int .i64 x.f0, .int .i64 x.f1, .int .i64 x.f2, .int .i64 x.f3, .int .i64 x.f4, .string x.f5]) (t := 73) ?_; intro gb hgb w1 hbox hb; have x0 : w1.cell? ⟨gb, 0, none⟩ = some (.slice A0_0 0 c0_0) := (bC_ hbox 0).trans rfl; have x1 : w1.cell? ⟨gb, 1, none⟩ = some (.slice A0_1 l0_1.length c0_1) := (bC_ hbox 1).trans rfl; have BX := aM_ hbox; have HB := aM_ hb; clear hbox hb hgb))
      refine wp_loop_once ?_
      go_wp2_with (go_at_call 32; refine (HS.out _ HB.out).mono ?_; rintro e w3 ⟨rfl, hb⟩; have HB2 := aM_ (HB.out.trans (hb.mono HB.out.size)); have BX2 := aM_ (kB_ BX.out hb); clear hb x0 x1; have y0 : w3.cell? ⟨gb, 0, none⟩ = some (.slice A0_0 0 c0_0) := (bC_ BX2.out 0).trans rfl; have y1 : w3.cell? ⟨gb, 1, none⟩ = some (.slice A0_1 l0_1.length c0_1) := (bC_ BX2.out 1).trans rfl; have y2 : w3.cell? ⟨gb, 2, none⟩ = some (.int .i64 x.f0) := (bC_ BX2.out 2).trans rfl; have y3 : w3.cell? ⟨gb, 3, none⟩ = some (.int .i64 x.f1) := (bC_ BX2.out 3).trans rfl; have y4 : w3.cell? ⟨gb, 4, none⟩ = some (.int .i64 x.f2) := (bC_ BX2.out 4).trans rfl; have y5 : w3.cell? ⟨gb, 5, none⟩ = some (.int .i64 x.f3) := (bC_ BX2.out 5).trans rfl; have y6 : w3.cell? ⟨gb, 6, none⟩ = some (.int .i64 x.f4) := (bC_ BX2.out 6).trans rfl; have y7 : w3.cell? ⟨gb, 7, none⟩ = some (.string x.f5) := (bC_ BX2.out 7).trans rfl)
      go_ret
      exact ⟨rfl, HB2.out⟩
    | true =>
      rw [hm] at HS
      have hM := mayL_parts hm
      have hap : allPlain l0_1 = true := List.all_eq_true.2 hM.2
      have h200 : l0_1.length ≤ 200 := hM.1
      have hw2 : wrap64 ((l0_1.length : Int) + 1) = (l0_1.length : Int) + 1 := by unfold wrap64; omega
      have c200 : ((l0_1.length : Int) ≤ 200) = True := eq_true (by omega)
      unfold mayBlk at h
      rw [hap, Bool.true_and] at h
      have HH := aM_ h
      clear h hm hM hap
      cases hz : zeroI x with
      | true =>
        have z1 : (x.f0 == 0 && (x.f1 == 0 && (x.f2 == 0 && (x.f3 == 0 && (x.f4 == 0 && x.f5.toList.isEmpty))))) = true := hz
        have z0 : (x.f0 != 0) = false := by unfold zeroI at hz; simp only [Bool.and_eq_true] at hz; simp only [bne, hz.1]; rfl
        go_enter Try.func75, Try.ntmps75
        go_wp2_with (first | ((with_reducible refine gate_dst (N := 1) rfl ?_); refine bX_ (N := 1) (cs := #[.slice A0_0 0 c0_0, .slice A0_1 l0_1.length c0_1, .int .i64 x.f0, .int .i64 x.f1, .int .i64 x.f2, .int .i64 x.f3, .int .i64 x.f4, .string x.f5]) (t := 73) ?_; intro gb hgb w1 hbox hb; have x0 : w1.cell? ⟨gb, 0, none⟩ = some (.slice A0_0 0 c0_0) := (bC_ hbox 0).trans rfl; have x1 : w1.cell? ⟨gb, 1, none⟩ = some (.slice A0_1 l0_1.length c0_1) := (bC_ hbox 1).trans rfl; have BX := aM_ hbox; have HB := aM_ hb; clear hbox hb hgb))
        refine wp_loop_once ?_
        go_wp2_with (go_at_call 32; refine (HS.out _ HB.out).mono ?_; rintro e w3 ⟨rfl, hb⟩; have HB2 := aM_ (HB.out.trans (hb.mono HB.out.size)); have BX2 := aM_ (kB_ BX.out hb); clear hb x0 x1; have y0 : w3.cell? ⟨gb, 0, none⟩ = some (.slice A0_0 0 c0_0) := (bC_ BX2.out 0).trans rfl; have y1 : w3.cell? ⟨gb, 1, none⟩ = some (.slice A0_1 l0_1.length c0_1) := (bC_ BX2.out 1).trans rfl; have y2 : w3.cell? ⟨gb, 2, none⟩ = some (.int .i64 x.f0) := (bC_ BX2.out 2).trans rfl; have y3 : w3.cell? ⟨gb, 3, none⟩ = some (.int .i64 x.f1) := (bC_ BX2.out 3).trans rfl; have y4 : w3.cell? ⟨gb, 4, none⟩ = some (.int .i64 x.f2) := (bC_ BX2.out 4).trans rfl; have y5 : w3.cell? ⟨gb, 5, none⟩ = some (.int .i64 x.f3) := (bC_ BX2.out 5).trans rfl; have y6 : w3.cell? ⟨gb, 6, none⟩ = some (.int .i64 x.f4) := (bC_ BX2.out 6).trans rfl; have y7 : w3.cell? ⟨gb, 7, none⟩ = some (.string x.f5) := (bC_ BX2.out 7).trans rfl)
        go_ret
        exact ⟨by rw [← HH.out, if_pos hz, decide_eq_true h200]; rfl, HB2.out⟩
      | false =>
        have z1 : (x.f0 == 0 && (x.f1 == 0 && (x.f2 == 0 && (x.f3 == 0 && (x.f4 == 0 && x.f5.toList.isEmpty))))) = false := hz
        by_cases h0 : x.f0 = 0
        · have z0 : (x.f0 != 0) = false := by rw [h0]; rfl
          have hE : endsOp x.f0 = false := by rw [h0]; rfl
          cases hI : okI x with
          | false =>
            have hI' : insOk x.f0 x.f1 x.f2 x.f3 x.f4 x.f5 = false := hI
            rw [hI'] at HI
            clear hI' h0
            go_enter Try.func75, Try.ntmps75
            go_wp2_with (first | ((with_reducible refine gate_dst (N := 1) rfl ?_); refine bX_ (N := 1) (cs := #[.slice A0_0 0 c0_0, .slice A0_1 l0_1.length c0_1, .int .i64 x.f0, .int .i64 x.f1, .int .i64 x.f2, .int .i64 x.f3, .int .i64 x.f4, .string x.f5]) (t := 73) ?_; intro gb hgb w1 hbox hb; have x0 : w1.cell? ⟨gb, 0, none⟩ = some (.slice A0_0 0 c0_0) := (bC_ hbox 0).trans rfl; have x1 : w1.cell? ⟨gb, 1, none⟩ = some (.slice A0_1 l0_1.length c0_1) := (bC_ hbox 1).trans rfl; have BX := aM_ hbox; have HB := aM_ hb; clear hbox hb hgb))
            refine wp_loop_once ?_
            go_wp2_with (first | (go_at_call 32; refine (HS.out _ HB.out).mono ?_; rintro e w3 ⟨rfl, hb⟩; have HB2 := aM_ (HB.out.trans (hb.mono HB.out.size)); have BX2 := aM_ (kB_ BX.out hb); clear hb x0 x1; have y0 : w3.cell? ⟨gb, 0, none⟩ = some (.slice A0_0 0 c0_0) := (bC_ BX2.out 0).trans rfl; have y1 : w3.cell? ⟨gb, 1, none⟩ = some (.slice A0_1 l0_1.length c0_1) := (bC_ BX2.out 1).trans rfl; have y2 : w3.cell? ⟨gb, 2, none⟩ = some (.int .i64 x.f0) := (bC_ BX2.out 2).trans rfl; have y3 : w3.cell? ⟨gb, 3, none⟩ = some (.int .i64 x.f1) := (bC_ BX2.out 3).trans rfl; have y4 : w3.cell? ⟨gb, 4, none⟩ = some (.int .i64 x.f2) := (bC_ BX2.out 4).trans rfl; have y5 : w3.cell? ⟨gb, 5, none⟩ = some (.int .i64 x.f3) := (bC_ BX2.out 5).trans rfl; have y6 : w3.cell? ⟨gb, 6, none⟩ = some (.int .i64 x.f4) := (bC_ BX2.out 6).trans rfl; have y7 : w3.cell? ⟨gb, 7, none⟩ = some (.string x.f5) := (bC_ BX2.out 7).trans rfl) | (go_at_call 39; refine (HI.out _).mono ?_; rintro e w4 ⟨rfl, hb⟩; have HB3 := aM_ (HB2.out.trans (hb.mono HB2.out.size)); have BX3 := aM_ (kB_ BX2.out hb); clear hb; have z2 : w4.cell? ⟨gb, 2, none⟩ = some (.int .i64 x.f0) := (bC_ BX3.out 2).trans rfl))
            go_ret
            exact ⟨by rw [← HH.out, if_neg (by rw [hz]; decide), hI]; rfl, HB3.out⟩
          | true =>
            have hI' : insOk x.f0 x.f1 x.f2 x.f3 x.f4 x.f5 = true := hI
            rw [hI'] at HI
            clear hI' h0
            go_enter Try.func75, Try.ntmps75
            go_wp2_with (first | ((with_reducible refine gate_dst (N := 1) rfl ?_); refine bX_ (N := 1) (cs := #[.slice A0_0 0 c0_0, .slice A0_1 l0_1.length c0_1, .int .i64 x.f0, .int .i64 x.f1, .int .i64 x.f2, .int .i64 x.f3, .int .i64 x.f4, .string x.f5]) (t := 73) ?_; intro gb hgb w1 hbox hb; have x0 : w1.cell? ⟨gb, 0, none⟩ = some (.slice A0_0 0 c0_0) := (bC_ hbox 0).trans rfl; have x1 : w1.cell? ⟨gb, 1, none⟩ = some (.slice A0_1 l0_1.length c0_1) := (bC_ hbox 1).trans rfl; have BX := aM_ hbox; have HB := aM_ hb; clear hbox hb hgb))
            refine wp_loop_once ?_
            go_wp2_with (first | (go_at_call 32; refine (HS.out _ HB.out).mono ?_; rintro e w3 ⟨rfl, hb⟩; have HB2 := aM_ (HB.out.trans (hb.mono HB.out.size)); have BX2 := aM_ (kB_ BX.out hb); clear hb x0 x1; have y0 : w3.cell? ⟨gb, 0, none⟩ = some (.slice A0_0 0 c0_0) := (bC_ BX2.out 0).trans rfl; have y1 : w3.cell? ⟨gb, 1, none⟩ = some (.slice A0_1 l0_1.length c0_1) := (bC_ BX2.out 1).trans rfl; have y2 : w3.cell? ⟨gb, 2, none⟩ = some (.int .i64 x.f0) := (bC_ BX2.out 2).trans rfl; have y3 : w3.cell? ⟨gb, 3, none⟩ = some (.int .i64 x.f1) := (bC_ BX2.out 3).trans rfl; have y4 : w3.cell? ⟨gb, 4, none⟩ = some (.int .i64 x.f2) := (bC_ BX2.out 4).trans rfl; have y5 : w3.cell? ⟨gb, 5, none⟩ = some (.int .i64 x.f3) := (bC_ BX2.out 5).trans rfl; have y6 : w3.cell? ⟨gb, 6, none⟩ = some (.int .i64 x.f4) := (bC_ BX2.out 6).trans rfl; have y7 : w3.cell? ⟨gb, 7, none⟩ = some (.string x.f5) := (bC_ BX2.out 7).trans rfl) | (go_at_call 39; refine (HI.out _).mono ?_; rintro e w4 ⟨rfl, hb⟩; have HB3 := aM_ (HB2.out.trans (hb.mono HB2.out.size)); have BX3 := aM_ (kB_ BX2.out hb); clear hb; have z2 : w4.cell? ⟨gb, 2, none⟩ = some (.int .i64 x.f0) := (bC_ BX3.out 2).trans rfl) | (go_at_call 40; refine (r3_Ends.calls x.f0 _ _ (rends_eq x.f0)).mono ?_; rintro e w5 ⟨rfl, ⟨nd, rfl⟩⟩; have HB4 := aM_ (bN_ HB3.out nd); (try rw [hE])))
            go_ret
            exact ⟨by rw [← HH.out, if_neg (by rw [hz]; decide), hE]; simp [hI], HB4.out⟩
        · have z0 : (x.f0 != 0) = true := by simpa using h0
          by_cases h201 : l0_1.length + 1 ≤ 200
          · have c201 : ((l0_1.length : Int) + 1 ≤ 200) = True := eq_true (by omega)
            have d201 := decide_eq_true h201
            cases hI : okI x with
            | false =>
              have hI' : insOk x.f0 x.f1 x.f2 x.f3 x.f4 x.f5 = false := hI
              rw [hI'] at HI
              clear hI' h0 h201
              go_enter Try.func75, Try.ntmps75
              go_wp2_with (first | ((with_reducible refine gate_dst (N := 1) rfl ?_); refine bX_ (N := 1) (cs := #[.slice A0_0 0 c0_0, .slice A0_1 l0_1.length c0_1, .int .i64 x.f0, .int .i64 x.f1, .int .i64 x.f2, .int .i64 x.f3, .int .i64 x.f4, .string x.f5]) (t := 73) ?_; intro gb hgb w1 hbox hb; have x0 : w1.cell? ⟨gb, 0, none⟩ = some (.slice A0_0 0 c0_0) := (bC_ hbox 0).trans rfl; have x1 : w1.cell? ⟨gb, 1, none⟩ = some (.slice A0_1 l0_1.length c0_1) := (bC_ hbox 1).trans rfl; have BX := aM_ hbox; have HB := aM_ hb; clear hbox hb hgb))
              refine wp_loop_once ?_
              go_wp2_with (first | (go_at_call 32; refine (HS.out _ HB.out).mono ?_; rintro e w3 ⟨rfl, hb⟩; have HB2 := aM_ (HB.out.trans (hb.mono HB.out.size)); have BX2 := aM_ (kB_ BX.out hb); clear hb x0 x1; have y0 : w3.cell? ⟨gb, 0, none⟩ = some (.slice A0_0 0 c0_0) := (bC_ BX2.out 0).trans rfl; have y1 : w3.cell? ⟨gb, 1, none⟩ = some (.slice A0_1 l0_1.length c0_1) := (bC_ BX2.out 1).trans rfl; have y2 : w3.cell? ⟨gb, 2, none⟩ = some (.int .i64 x.f0) := (bC_ BX2.out 2).trans rfl; have y3 : w3.cell? ⟨gb, 3, none⟩ = some (.int .i64 x.f1) := (bC_ BX2.out 3).trans rfl; have y4 : w3.cell? ⟨gb, 4, none⟩ = some (.int .i64 x.f2) := (bC_ BX2.out 4).trans rfl; have y5 : w3.cell? ⟨gb, 5, none⟩ = some (.int .i64 x.f3) := (bC_ BX2.out 5).trans rfl; have y6 : w3.cell? ⟨gb, 6, none⟩ = some (.int .i64 x.f4) := (bC_ BX2.out 6).trans rfl; have y7 : w3.cell? ⟨gb, 7, none⟩ = some (.string x.f5) := (bC_ BX2.out 7).trans rfl) | (go_at_call 39; refine (HI.out _).mono ?_; rintro e w4 ⟨rfl, hb⟩; have HB3 := aM_ (HB2.out.trans (hb.mono HB2.out.size)); have BX3 := aM_ (kB_ BX2.out hb); clear hb; have z2 : w4.cell? ⟨gb, 2, none⟩ = some (.int .i64 x.f0) := (bC_ BX3.out 2).trans rfl))
              go_ret
              exact ⟨by rw [← HH.out, if_neg (by rw [hz]; decide), hI]; rfl, HB3.out⟩
            | true =>
              have hI' : insOk x.f0 x.f1 x.f2 x.f3 x.f4 x.f5 = true := hI
              rw [hI'] at HI
              clear hI' h0 h201
              go_enter Try.func75, Try.ntmps75
              go_wp2_with (first | ((with_reducible refine gate_dst (N := 1) rfl ?_); refine bX_ (N := 1) (cs := #[.slice A0_0 0 c0_0, .slice A0_1 l0_1.length c0_1, .int .i64 x.f0, .int .i64 x.f1, .int .i64 x.f2, .int .i64 x.f3, .int .i64 x.f4, .string x.f5]) (t := 73) ?_; intro gb hgb w1 hbox hb; have x0 : w1.cell? ⟨gb, 0, none⟩ = some (.slice A0_0 0 c0_0) := (bC_ hbox 0).trans rfl; have x1 : w1.cell? ⟨gb, 1, none⟩ = some (.slice A0_1 l0_1.length c0_1) := (bC_ hbox 1).trans rfl; have BX := aM_ hbox; have HB := aM_ hb; clear hbox hb hgb))
              refine wp_loop_once ?_
              go_wp2_with (first | (go_at_call 32; refine (HS.out _ HB.out).mono ?_; rintro e w3 ⟨rfl, hb⟩; have HB2 := aM_ (HB.out.trans (hb.mono HB.out.size)); have BX2 := aM_ (kB_ BX.out hb); clear hb x0 x1; have y0 : w3.cell? ⟨gb, 0, none⟩ = some (.slice A0_0 0 c0_0) := (bC_ BX2.out 0).trans rfl; have y1 : w3.cell? ⟨gb, 1, none⟩ = some (.slice A0_1 l0_1.length c0_1) := (bC_ BX2.out 1).trans rfl; have y2 : w3.cell? ⟨gb, 2, none⟩ = some (.int .i64 x.f0) := (bC_ BX2.out 2).trans rfl; have y3 : w3.cell? ⟨gb, 3, none⟩ = some (.int .i64 x.f1) := (bC_ BX2.out 3).trans rfl; have y4 : w3.cell? ⟨gb, 4, none⟩ = some (.int .i64 x.f2) := (bC_ BX2.out 4).trans rfl; have y5 : w3.cell? ⟨gb, 5, none⟩ = some (.int .i64 x.f3) := (bC_ BX2.out 5).trans rfl; have y6 : w3.cell? ⟨gb, 6, none⟩ = some (.int .i64 x.f4) := (bC_ BX2.out 6).trans rfl; have y7 : w3.cell? ⟨gb, 7, none⟩ = some (.string x.f5) := (bC_ BX2.out 7).trans rfl) | (go_at_call 39; refine (HI.out _).mono ?_; rintro e w4 ⟨rfl, hb⟩; have HB3 := aM_ (HB2.out.trans (hb.mono HB2.out.size)); have BX3 := aM_ (kB_ BX2.out hb); clear hb; have z2 : w4.cell? ⟨gb, 2, none⟩ = some (.int .i64 x.f0) := (bC_ BX3.out 2).trans rfl) | (go_at_call 40; refine (r3_Ends.calls x.f0 _ _ (rends_eq x.f0)).mono ?_; rintro e w5 ⟨rfl, ⟨nd, rfl⟩⟩; have HB4 := aM_ (bN_ HB3.out nd); cases hE : endsOp x.f0))
              all_goals (
                go_ret
                exact ⟨by rw [← HH.out, if_neg (by rw [hz]; decide), hE, d201]; simp [hI], HB4.out⟩)
          · have c201 : ((l0_1.length : Int) + 1 ≤ 200) = False := eq_false (by omega)
            have d201 := decide_eq_false h201
            clear h0 h201
            go_enter Try.func75, Try.ntmps75
            go_wp2_with (first | ((with_reducible refine gate_dst (N := 1) rfl ?_); refine bX_ (N := 1) (cs := #[.slice A0_0 0 c0_0, .slice A0_1 l0_1.length c0_1, .int .i64 x.f0, .int .i64 x.f1, .int .i64 x.f2, .int .i64 x.f3, .int .i64 x.f4, .string x.f5]) (t := 73) ?_; intro gb hgb w1 hbox hb; have x0 : w1.cell? ⟨gb, 0, none⟩ = some (.slice A0_0 0 c0_0) := (bC_ hbox 0).trans rfl; have x1 : w1.cell? ⟨gb, 1, none⟩ = some (.slice A0_1 l0_1.length c0_1) := (bC_ hbox 1).trans rfl; have BX := aM_ hbox; have HB := aM_ hb; clear hbox hb hgb))
            refine wp_loop_once ?_
            go_wp2_with (go_at_call 32; refine (HS.out _ HB.out).mono ?_; rintro e w3 ⟨rfl, hb⟩; have HB2 := aM_ (HB.out.trans (hb.mono HB.out.size)); have BX2 := aM_ (kB_ BX.out hb); clear hb x0 x1; have y0 : w3.cell? ⟨gb, 0, none⟩ = some (.slice A0_0 0 c0_0) := (bC_ BX2.out 0).trans rfl; have y1 : w3.cell? ⟨gb, 1, none⟩ = some (.slice A0_1 l0_1.length c0_1) := (bC_ BX2.out 1).trans rfl; have y2 : w3.cell? ⟨gb, 2, none⟩ = some (.int .i64 x.f0) := (bC_ BX2.out 2).trans rfl; have y3 : w3.cell? ⟨gb, 3, none⟩ = some (.int .i64 x.f1) := (bC_ BX2.out 3).trans rfl; have y4 : w3.cell? ⟨gb, 4, none⟩ = some (.int .i64 x.f2) := (bC_ BX2.out 4).trans rfl; have y5 : w3.cell? ⟨gb, 5, none⟩ = some (.int .i64 x.f3) := (bC_ BX2.out 5).trans rfl; have y6 : w3.cell? ⟨gb, 6, none⟩ = some (.int .i64 x.f4) := (bC_ BX2.out 6).trans rfl; have y7 : w3.cell? ⟨gb, 7, none⟩ = some (.string x.f5) := (bC_ BX2.out 7).trans rfl)
            go_ret
            exact ⟨by rw [← HH.out, if_neg (by rw [hz]; decide), d201]; simp, HB2.out⟩
  · exact absurd h (by simp)
end
section
theorem rmay_eq {k : Nat} (hk : 30 ≤ k) (op s : Int) (h0 : 0 ≤ op) (h1 : op ≤ 33) (s0 : 0 ≤ s) (s1 : s ≤ 3) : r3_May.f k op s = some (mayOp op s) := by
  refine at_rounds (r3_May.mono op s) hk ?_
  have hs : s = 0 ∨ s = 1 ∨ s = 2 ∨ s = 3 := by omega
  rcases hs with rfl | rfl | rfl | rfl
  · exact upto34 (p := fun op => r3_May.f 30 op 0 = some (mayOp op 0)) (by decide +kernel) op h0 h1
  · exact upto34 (p := fun op => r3_May.f 30 op 1 = some (mayOp op 1)) (by decide +kernel) op h0 h1
  · exact upto34 (p := fun op => r3_May.f 30 op 2 = some (mayOp op 2)) (by decide +kernel) op h0 h1
  · exact upto34 (p := fun op => r3_May.f 30 op 3 = some (mayOp op 3)) (by decide +kernel) op h0 h1
theorem Ev.all {α : Type} {g : Nat → Option α} {r : α} {K : Nat} (h : ∀ k, K ≤ k → g k = some r) : Ev g r := ⟨K, h⟩
def rdyFrom (E : List S51) (a : List Int) (i : Nat) (c : Int) (j : Nat) : Bool := (E.drop j).all fun e => e.f1 != (i : Int) || (decide (0 ≤ rd a e.f0) && decide (rd a e.f0 + e.f2 ≤ c))
theorem ready_ev {l : List S24} (hl : l.length ≤ 200) (x : PSt) (c : Int) (hg : PGood l.length c x) (c0 : 0 ≤ c) (c1 : c ≤ 1000) (i : Nat) (hi : i < l.length) : ∀ (d j : Nat), j + d = (edges l).length → Ev (fun k => r13_ready.l0 k (edges l) x.at_ (i : Int) c (j : Int)) (rdyFrom (edges l) x.at_ i c j)
  | 0, j, hj => by
    refine Ev.all (K := 1) (fun k hk => ?_)
    obtain ⟨k, rfl⟩ : ∃ k', k = k' + 1 := ⟨k - 1, by omega⟩
    simp only [r13_ready.l0]
    rw [if_neg (by omega)]
    unfold rdyFrom
    rw [List.drop_of_length_le (by omega)]; rfl
  | d + 1, j, hj => by
    have ih := ready_ev hl x c hg c0 c1 i hi d (j + 1) (by omega)
    have hjl : j < (edges l).length := by omega
    have hfew := edges_few l hl
    obtain ⟨a, t, e0, e1, hat, htn⟩ := edges_range l _ _ _ (List.getElem_mem hjl)
    have hd := edges_dist l _ (List.getElem_mem hjl)
    have hu := hg.up a (by omega)
    have hw : wrap64 ((j : Int) + 1) = ((j + 1 : Nat) : Int) := wrap_at (by omega)
    have hsplit : rdyFrom (edges l) x.at_ i c j = (((edges l)[j].f1 != (i : Int) || (decide (0 ≤ rd x.at_ (edges l)[j].f0) && decide (rd x.at_ (edges l)[j].f0 + (edges l)[j].f2 ≤ c))) && rdyFrom (edges l) x.at_ i c (j + 1)) := by
      unfold rdyFrom
      rw [List.drop_eq_getElem_cons hjl, List.all_cons]
    have hT : Ev (fun k => r13_ready.j1 k (edges l) x.at_ (i : Int) c (j : Int) true) false := Ev.step (f := fun _ => some false) (fun k => by simp only [r13_ready.j1, if_true]) (Ev.now _)
    have hF : Ev (fun k => r13_ready.j1 k (edges l) x.at_ (i : Int) c (j : Int) false) (rdyFrom (edges l) x.at_ i c (j + 1)) := Ev.step (fun k => by simp only [r13_ready.j1, Bool.false_eq_true, if_false, hw]) ih
    rw [hsplit]
    generalize he : (edges l)[j] = ed at e0 e1 hd ⊢
    have hrd : q51 (edges l) (j : Int) = ed := by rw [rd51_at _ _ hjl, he]
    have hal := hg.len
    by_cases h1 : ed.f1 = (i : Int)
    · by_cases h2 : rd x.at_ ed.f0 < 0
      · refine Ev.step (fun k => ?_) (show Ev _ _ from (by
          rw [show ((ed.f1 != (i : Int) || (decide (0 ≤ rd x.at_ ed.f0) && decide (rd x.at_ ed.f0 + ed.f2 ≤ c))) && rdyFrom (edges l) x.at_ i c (j + 1)) = false by rw [h1, decide_eq_false (show ¬ 0 ≤ rd x.at_ ed.f0 by omega)]; simp]
          exact hT))
        simp only [r13_ready.l0]
        rw [if_pos (by omega), if_pos (by omega), hrd, if_pos h1, if_pos (by omega), if_pos (by omega), if_pos h2]
      · have hw2 : wrap64 (rd x.at_ ed.f0 + ed.f2) = rd x.at_ ed.f0 + ed.f2 := by rw [e0] at h2 ⊢; exact wrapS _ (by omega) (by omega)
        by_cases h3 : rd x.at_ ed.f0 + ed.f2 ≤ c
        · refine Ev.step (fun k => ?_) (show Ev _ _ from (by
            rw [show ((ed.f1 != (i : Int) || (decide (0 ≤ rd x.at_ ed.f0) && decide (rd x.at_ ed.f0 + ed.f2 ≤ c))) && rdyFrom (edges l) x.at_ i c (j + 1)) = rdyFrom (edges l) x.at_ i c (j + 1) by rw [decide_eq_true (show 0 ≤ rd x.at_ ed.f0 by omega), decide_eq_true h3]; simp]
            exact hF))
          simp only [r13_ready.l0]
          rw [if_pos (by omega), if_pos (by omega), hrd, if_pos h1, if_pos (by omega), if_pos (by omega), if_neg h2, hw2, decide_eq_false (by omega)]
        · refine Ev.step (fun k => ?_) (show Ev _ _ from (by
            rw [show ((ed.f1 != (i : Int) || (decide (0 ≤ rd x.at_ ed.f0) && decide (rd x.at_ ed.f0 + ed.f2 ≤ c))) && rdyFrom (edges l) x.at_ i c (j + 1)) = false by rw [h1, decide_eq_false h3]; simp]
            exact hT))
          simp only [r13_ready.l0]
          rw [if_pos (by omega), if_pos (by omega), hrd, if_pos h1, if_pos (by omega), if_pos (by omega), if_neg h2, hw2, decide_eq_true (by omega)]
    · refine Ev.step (fun k => ?_) (show Ev _ _ from (by
        rw [show ((ed.f1 != (i : Int) || (decide (0 ≤ rd x.at_ ed.f0) && decide (rd x.at_ ed.f0 + ed.f2 ≤ c))) && rdyFrom (edges l) x.at_ i c (j + 1)) = rdyFrom (edges l) x.at_ i c (j + 1) by rw [show (ed.f1 != (i : Int)) = true by simpa using h1]; simp]
        exact hF))
      simp only [r13_ready.l0]
      rw [if_pos (by omega), if_pos (by omega), hrd, if_neg h1]
theorem ready_f {l : List S24} (hl : l.length ≤ 200) (x : PSt) (c : Int) (hg : PGood l.length c x) (c0 : 0 ≤ c) (c1 : c ≤ 1000) (i : Nat) (hi : i < l.length) : Ev (fun k => r13_ready.f k (edges l) x.at_ (i : Int) c) (rdy (edges l) x.at_ i c) := by
  have h := ready_ev hl x c hg c0 c1 i hi (edges l).length 0 (by omega)
  unfold rdyFrom at h
  rw [List.drop_zero] at h
  exact h
section
variable {l : List S24} (ho : okA l) (hn : l.length ≤ 200) (x : PSt) (c s : Int) (hg : PGood l.length c x) (c0 : 0 ≤ c) (c1 : c ≤ 1000) (s0 : 0 ≤ s) (s1 : s ≤ 3) (r : List Int × List Int)
def bst (l : List S24) (x : PSt) (c s : Int) (i : Nat) : Int := bestUp (cand (mayAt l) (edges l) x.at_ c s) (urges l) (heights l) i
include ho hn hg c0 c1 s0 s1 in
theorem best_ev (hnext : Ev (fun k => if bst l x c s l.length ≥ 0 then r13_Cycles.l2 k l (x.at_.set (bst l x c s l.length).toNat c) (x.sl.set (bst l x c s l.length).toNat s) (heights l) (urges l) (edges l) (wrap64 (x.left - 1)) c (wrap64 (s + 1)) else r13_Cycles.l2 k l x.at_ x.sl (heights l) (urges l) (edges l) x.left c (wrap64 (s + 1))) r) :
    ∀ (d i : Nat), i + d = l.length → Ev (fun k => r13_Cycles.l3 k l x.at_ x.sl (heights l) (urges l) (edges l) x.left c s (bst l x c s i) (i : Int)) r
  | 0, i, hi => by
    obtain rfl : i = l.length := by omega
    refine Ev.step (fun k => ?_) hnext
    simp only [r13_Cycles.l3]
    rw [if_neg (by omega)]
    have hal := hg.len
    have hsl := hg.len2
    rcases bestUp_range (cand (mayAt l) (edges l) x.at_ c s) (urges l) (heights l) l.length with h1 | ⟨i, h1, h2, _⟩
    · unfold bst; rw [h1, if_neg (by omega), if_neg (by omega)]
    · unfold bst; rw [h2, if_pos (by omega), if_pos (by omega), if_pos (by omega), if_pos (by omega), if_pos (by omega)]
  | d + 1, i, hi => by
    have ih := best_ev hnext d (i + 1) (by omega)
    have hil : i < l.length := by omega
    have hal := hg.len
    have hop := okI_op (okA_L ho i hil)
    have hw : wrap64 ((i : Int) + 1) = ((i + 1 : Nat) : Int) := wrap_at (by omega)
    have hbs : bst l x c s (i + 1) = if (cand (mayAt l) (edges l) x.at_ c s i && better (urges l) (heights l) (bst l x c s i) i) = true then (i : Int) else bst l x c s i := rfl
    have hju : ∀ b : Bool, b = better (urges l) (heights l) (bst l x c s i) i → cand (mayAt l) (edges l) x.at_ c s i = true → Ev (fun k => r13_Cycles.j5 k l x.at_ x.sl (heights l) (urges l) (edges l) x.left c s (bst l x c s i) (i : Int) b) r := by
      intro b hb hc
      rw [hbs, hc, Bool.true_and, ← hb] at ih
      refine Ev.step (fun k => ?_) ih
      simp only [r13_Cycles.j5, hw]
      cases b <;> simp
    have hno : cand (mayAt l) (edges l) x.at_ c s i = false → Ev (fun k => r13_Cycles.j4 k l x.at_ x.sl (heights l) (urges l) (edges l) x.left c s (bst l x c s i) (i : Int) true) r := by
      intro hc
      rw [hbs, hc, Bool.false_and] at ih
      refine Ev.step (fun k => ?_) ih
      simp only [r13_Cycles.j4, if_true, hw]
      rfl
    have hyes : cand (mayAt l) (edges l) x.at_ c s i = true → Ev (fun k => r13_Cycles.j4 k l x.at_ x.sl (heights l) (urges l) (edges l) x.left c s (bst l x c s i) (i : Int) false) r := by
      intro hc
      have hu := urges_len l
      have hh := heights_len l
      rcases bestUp_range (cand (mayAt l) (edges l) x.at_ c s) (urges l) (heights l) i with h1 | ⟨b, h1, h2, _⟩
      · have hb : bst l x c s i = -1 := h1
        refine Ev.step (fun k => ?_) (hju true (by rw [hb]; simp [better]) hc)
        simp only [r13_Cycles.j4, Bool.false_eq_true, if_false]
        rw [hb, if_pos (by omega)]
      · have hb : bst l x c s i = (b : Int) := h2
        by_cases hlt : rd (urges l) (i : Int) < rd (urges l) (b : Int)
        · refine Ev.step (fun k => ?_) (hju true (by rw [hb]; simp [better, hlt]) hc)
          simp only [r13_Cycles.j4, Bool.false_eq_true, if_false]
          rw [hb, if_neg (by omega), if_pos (by omega), if_pos (by omega), if_pos (by omega), if_pos (by omega), if_pos hlt]
        · by_cases heq : rd (urges l) (i : Int) = rd (urges l) (b : Int)
          · refine Ev.step (fun k => ?_) (hju (decide (rd (heights l) (i : Int) > rd (heights l) (b : Int))) (by rw [hb]; simp [better, heq]; omega) hc)
            simp only [r13_Cycles.j4, Bool.false_eq_true, if_false]
            rw [hb, if_neg (by omega), if_pos (by omega), if_pos (by omega), if_pos (by omega), if_pos (by omega), if_neg hlt, if_pos heq, if_pos (by omega), if_pos (by omega)]
          · refine Ev.step (fun k => ?_) (hju false (by rw [hb]; simp [better, heq]; omega) hc)
            simp only [r13_Cycles.j4, Bool.false_eq_true, if_false]
            rw [hb, if_neg (by omega), if_pos (by omega), if_pos (by omega), if_pos (by omega), if_pos (by omega), if_neg hlt, if_neg heq]
    by_cases ha : rd x.at_ (i : Int) ≥ 0
    · refine Ev.step (fun k => ?_) (hno (by unfold cand; rw [decide_eq_false (show ¬ rd x.at_ (i : Int) < 0 by omega)]; simp))
      simp only [r13_Cycles.l3]
      rw [if_pos (by omega), if_pos (by omega), if_pos (by omega), if_pos ha]
    · have hM : Ev (fun k => r3_May.f k (q24 l i).f0 s) (mayAt l i s) := Ev.all (K := 30) (fun k hk => rmay_eq hk _ _ hop.1 hop.2 s0 s1)
      have hR := ready_f hn x c hg c0 c1 i hil
      have hcand : cand (mayAt l) (edges l) x.at_ c s i = (mayAt l i s && rdy (edges l) x.at_ i c) := by unfold cand; rw [decide_eq_true (show rd x.at_ (i : Int) < 0 by omega), Bool.true_and]
      refine Ev.step (f := fun k => (r3_May.f k (q24 l i).f0 s).bind fun t => if t = true then (r13_ready.f k (edges l) x.at_ (i : Int) c).bind fun t2 => r13_Cycles.j4 k l x.at_ x.sl (heights l) (urges l) (edges l) x.left c s (bst l x c s i) (i : Int) (!t2) else r13_Cycles.j4 k l x.at_ x.sl (heights l) (urges l) (edges l) x.left c s (bst l x c s i) (i : Int) true) (fun k => ?_) (Ev.bind hM ?_)
      · simp only [r13_Cycles.l3]
        rw [if_pos (by omega), if_pos (by omega), if_pos (by omega), if_neg ha]
      · cases hm : mayAt l i s with
        | false =>
          simp only [Bool.false_eq_true, if_false]
          exact hno (by rw [hcand, hm]; rfl)
        | true =>
          simp only [if_true]
          refine Ev.bind hR ?_
          cases hr : rdy (edges l) x.at_ i c with
          | false => exact hno (by rw [hcand, hm, hr]; rfl)
          | true => exact hyes (by rw [hcand, hm, hr]; rfl)
include ho hn hg c0 c1 s0 s1 in
theorem slot_ev (hnext : Ev (fun k => r13_Cycles.l2 k l (slotStep (mayAt l) l.length (edges l) (urges l) (heights l) x (c, s)).at_ (slotStep (mayAt l) l.length (edges l) (urges l) (heights l) x (c, s)).sl (heights l) (urges l) (edges l) (slotStep (mayAt l) l.length (edges l) (urges l) (heights l) x (c, s)).left c (s + 1)) r) :
    Ev (fun k => r13_Cycles.l2 k l x.at_ x.sl (heights l) (urges l) (edges l) x.left c s) r := by
  have hleft := hg.left
  have hop : opens_ x.at_ ≤ x.at_.length := List.countP_le_length
  have hal := hg.len
  have hb := best_ev ho hn x c s hg c0 c1 s0 s1 r (by
    unfold slotStep at hnext
    have hws : wrap64 (s + 1) = s + 1 := wrapS _ (by omega) (by omega)
    have hwl : wrap64 (x.left - 1) = x.left - 1 := wrapS _ (by omega) (by omega)
    rw [hws, hwl]
    by_cases h : 0 ≤ bst l x c s l.length
    · have h' : 0 ≤ bestUp (cand (mayAt l) (edges l) x.at_ c s) (urges l) (heights l) l.length := h
      simp only [h', if_true] at hnext
      simp only [ge_iff_le, h, if_true]
      exact hnext
    · have h' : ¬ 0 ≤ bestUp (cand (mayAt l) (edges l) x.at_ c s) (urges l) (heights l) l.length := h
      simp only [h', if_false] at hnext
      simp only [ge_iff_le, h, if_false]
      exact hnext) l.length 0 (by omega)
  refine Ev.step (fun k => ?_) hb
  simp only [r13_Cycles.l2]
  rw [if_pos (by omega)]
  rfl
end
theorem cycle_ev {l : List S24} (ho : okA l) (hn : l.length ≤ 200) (r : List Int × List Int) : ∀ (f : Nat) (c : Int) (x : PSt), PGood l.length (c - 1) x → 0 ≤ c → c + f ≤ 1000 → (runN (mayAt l) l.length (edges l) (urges l) (heights l) f c x).left ≤ 0 → r = ((runN (mayAt l) l.length (edges l) (urges l) (heights l) f c x).at_, (runN (mayAt l) l.length (edges l) (urges l) (heights l) f c x).sl) →
    Ev (fun k => r13_Cycles.l1 k l x.at_ x.sl (heights l) (urges l) (edges l) x.left c) r
  | 0, c, x, hg, c0, c1, hl, hr => by
    refine Ev.step (f := fun _ => some (x.at_, x.sl)) (fun k => ?_) (by rw [hr]; exact Ev.now _)
    simp only [r13_Cycles.l1]
    rw [if_neg (by have : x.left ≤ 0 := hl; omega)]
  | f + 1, c, x, hg, c0, c1, hl, hr => by
    by_cases h0 : 0 < x.left
    · rw [runN, if_pos h0] at hl hr
      have g0 : PGood l.length c x := hg.later (by omega)
      have hg1 : PGood l.length c (cycStep (mayAt l) l.length (edges l) (urges l) (heights l) x c) := cyc_good g0 c0
      have ih := cycle_ev ho hn r f (c + 1) _ (by rw [Int.add_sub_cancel]; exact hg1) (by omega) (by omega) hl hr
      have g1 := slot_good (may := mayAt l) (E := edges l) (U := urges l) (H := heights l) (s := 0) g0 c0 (by omega)
      have g2 := slot_good (may := mayAt l) (E := edges l) (U := urges l) (H := heights l) (s := 1) g1 c0 (by omega)
      have g3 := slot_good (may := mayAt l) (E := edges l) (U := urges l) (H := heights l) (s := 2) g2 c0 (by omega)
      refine Ev.step (fun k => ?_) (slot_ev ho hn x c 0 g0 c0 (by omega) (by omega) (by omega) r (slot_ev ho hn _ c 1 g1 c0 (by omega) (by omega) (by omega) r (slot_ev ho hn _ c 2 g2 c0 (by omega) (by omega) (by omega) r (slot_ev ho hn _ c 3 g3 c0 (by omega) (by omega) (by omega) r ?_))))
      · simp only [r13_Cycles.l1]
        rw [if_pos (by omega)]
      · refine Ev.step (fun k => ?_) ih
        simp only [r13_Cycles.l2]
        rw [if_neg (by omega), wrapS _ (by omega) (by omega)]
        rfl
    · rw [run_done _ _ _ (by omega)] at hr
      refine Ev.step (f := fun _ => some (x.at_, x.sl)) (fun k => ?_) (by rw [hr]; exact Ev.now _)
      simp only [r13_Cycles.l1]
      rw [if_neg (by omega)]
theorem init_ev (l : List S24) (hn : l.length ≤ 200) (sl : List Int) (r : List Int × List Int) (hnext : Ev (fun k => (r13_Heights.f k l).bind fun t0 => (r13_Urges.f k l).bind fun t1 => (r13_Edges.f k l).bind fun t2 => r13_Cycles.l1 k l (List.replicate l.length (-1)) sl t0 t1 t2 (l.length : Int) 0) r) :
    ∀ (d i : Nat), i + d = l.length → Ev (fun k => r13_Cycles.l0 k l (List.replicate i (-1) ++ List.replicate d 0) sl (i : Int)) r
  | 0, i, hi => by
    obtain rfl : i = l.length := by omega
    refine Ev.step (fun k => ?_) hnext
    simp only [r13_Cycles.l0]
    rw [if_neg (by omega)]
    simp
  | d + 1, i, hi => by
    refine Ev.step (fun k => ?_) (init_ev l hn sl r hnext d (i + 1) (by omega))
    simp only [r13_Cycles.l0]
    rw [if_pos (by omega), if_pos (by omega), if_pos (by simp; omega), wrap_at (by omega), Int.toNat_natCast]
    congr 1
    rw [List.set_append_right _ _ (by simp), List.length_replicate, Nat.sub_self, List.replicate_succ, List.set_cons_zero, List.replicate_succ', List.append_assoc]
    rfl
theorem ref_cycles (l : List S24) (ho : okA l) (hn : l.length ≤ 200) : Ev (fun k => r13_Cycles.f k l) ((cycF l).at_, (cycF l).sl) := by
  have h1 : Ev (fun k => r13_Heights.f k l) (heights l) := Ev.all (K := 10000000) (fun k hk => rheights_eq hk l hn ho)
  have h2 : Ev (fun k => r13_Urges.f k l) (urges l) := Ev.all (K := 10000000) (fun k hk => rurges_eq hk l hn ho)
  have h3 : Ev (fun k => r13_Edges.f k l) (edges l) := Ev.all (K := 50000) (fun k hk => ref_edges l hn (okA_L ho) hk)
  have hm := cycle_ev ho hn ((cycF l).at_, (cycF l).sl) (4 * l.length) 0 (x0F l.length) (good0 l.length) (Int.le_refl _) (by omega) (Int.le_of_eq (cycF_ends ho).1) rfl
  have h0 := init_ev l hn (List.replicate l.length 0) _ (Ev.bind h1 (Ev.bind h2 (Ev.bind h3 hm))) l.length 0 (by omega)
  refine Ev.congr (fun k => ?_) h0
  unfold r13_Cycles.f
  rw [if_pos (by omega), Int.toNat_natCast, if_pos (by omega)]
  rfl
end
section
attribute [local go_sem] Oper.semAt_some
attribute [local go_sem] max2_int min2_int max_two min_two
def refbun77.T6 : Bool × List (List Nat × List Nat) := (true, [([], []), ([], []), ([], []), ([1, 2], [1, 2]), ([3], [3]), ([], []), ([5], [5]), ([], []), ([6, 7], [6, 7]), ([8], [8]), ([9], [9]), ([10], [10]), ([4, 11], [4, 11]), ([0, 12], [0, 12]), ([13, 11, 0, 1, 2, 3, 4, 5, 6, 7, 8, 9, 10, 11, 12, 13], [0, 13])])
def refbun77.B6 : List Nat := [0, 0, 0, 6, 14, 0, 32, 0, 224, 480, 992, 2016, 4094, 8191, 16383]
theorem refbun77.tab6 : rtab .any (opsOf Try.f77 6) = refbun77.T6 := by kernel_rfl
theorem refbun77.bits6 : waitsOk refbun77.T6.2 refbun77.B6 = true := by kernel_rfl
def refbun77.T19 : Bool × List (List Nat × List Nat) := (true, [([], []), ([], []), ([], []), ([1, 2], [1, 2]), ([3], [3]), ([], []), ([], []), ([5, 6], [5, 6]), ([7], [7]), ([], []), ([9], [9]), ([], []), ([10, 11], [10, 11]), ([12], [12]), ([0, 4], [0, 4]), ([14, 8, 0, 1, 2, 3, 4, 5, 6, 7, 8, 9, 10, 11, 12, 13], [8, 14]), ([15, 13, 0, 1, 2, 3, 4, 5, 6, 7, 8, 9, 10, 11, 12, 13], [13, 15])])
def refbun77.B19 : List Nat := [0, 0, 0, 6, 14, 0, 0, 96, 224, 0, 512, 0, 3584, 7680, 31, 32767, 65535]
theorem refbun77.tab19 : rtab .any (opsOf Try.f77 19) = refbun77.T19 := by kernel_rfl
theorem refbun77.bits19 : waitsOk refbun77.T19.2 refbun77.B19 = true := by kernel_rfl
def refbun77.T21 : Bool × List (List Nat × List Nat) := (true, [([], []), ([], []), ([], []), ([2], [2]), ([0, 1], [0, 1]), ([4, 0, 1, 2, 3], [4]), ([5, 3, 0, 1, 2, 3], [3, 5])])
def refbun77.B21 : List Nat := [0, 0, 0, 4, 3, 31, 63]
theorem refbun77.tab21 : rtab .any (opsOf Try.f77 21) = refbun77.T21 := by kernel_rfl
theorem refbun77.bits21 : waitsOk refbun77.T21.2 refbun77.B21 = true := by kernel_rfl
theorem busy_loop (at_ sl : List Int) (c : Int) (hl : at_.length = sl.length) (hn : at_.length ≤ 1000000) : ∀ (d k i : Nat), i + d = at_.length → d < k → takenUp at_ sl c 0 i = false → r13_busy.l0 k at_ sl c (i : Int) = some (takenUp at_ sl c 0 at_.length)
  | 0, k, i, hi, hk, ht => by
    obtain ⟨k, rfl⟩ : ∃ k', k = k' + 1 := ⟨k - 1, by omega⟩
    obtain rfl : i = at_.length := by omega
    simp only [r13_busy.l0]
    rw [if_neg (by omega), ht]
  | d + 1, k, i, hi, hk, ht => by
    obtain ⟨k, rfl⟩ : ∃ k', k = k' + 1 := ⟨k - 1, by omega⟩
    have hw : wrap64 ((i : Int) + 1) = ((i + 1 : Nat) : Int) := wrap_at (by omega)
    simp only [r13_busy.l0]
    rw [if_pos (by omega), if_pos (by omega), hw]
    by_cases h1 : rd at_ (i : Int) = c
    · rw [if_pos h1, if_pos (by omega)]
      by_cases h2 : rd sl (i : Int) = 0
      · rw [if_pos h2, takenUp_at at_ sl c 0 i (by rw [h1, h2]; simp) _ (by omega)]
      · rw [if_neg h2]
        exact busy_loop at_ sl c hl hn d k (i + 1) (by omega) (by omega) (by rw [takenUp, ht, show (rd sl (i : Int) == 0) = false by simpa using h2]; simp)
    · rw [if_neg h1]
      exact busy_loop at_ sl c hl hn d k (i + 1) (by omega) (by omega) (by rw [takenUp, ht, show (rd at_ (i : Int) == c) = false by simpa using h1]; simp)
theorem busy_eq (at_ sl : List Int) (c : Int) (hl : at_.length = sl.length) (hn : at_.length ≤ 1000000) : r13_busy.f (at_.length + 1) at_ sl c = some (takenUp at_ sl c 0 at_.length) :=
  busy_loop at_ sl c hl hn at_.length (at_.length + 1) 0 (by omega) (by omega) rfl
theorem busy_calls (l : List S24) (ho : okA l) (hn : l.length ≤ 200) (Aa As : Option Addr) (ca cs : Nat) (c : Int) (W : World) (hA : Kd.C (Kd.int .i64) W Aa l.length (cycF l).at_) (hca : l.length ≤ ca) (hS : Kd.C (Kd.int .i64) W As l.length (cycF l).sl) (hcs : l.length ≤ cs) :
    Calls Try.prog 107 #[.slice Aa l.length ca, .slice As l.length cs, .int .i64 c] W fun e w' => e = .returned (.bool (takenUp (cycF l).at_ (cycF l).sl c 0 l.length)) ∧ Dr_ W w' := by
  obtain ⟨hla, hls⟩ := cyc_len ho
  have h := r13_busy.calls ((cycF l).at_.length + 1) Aa ca (cycF l).at_ As cs (cycF l).sl c _ W (by rw [hla]; exact hA) (by omega) (by rw [hls]; exact hS) (by omega) (busy_eq _ _ c (by omega) (by omega))
  rw [hla, hls] at h
  exact h
theorem rlast_calls (l : List S24) (ho : okA l) (hn : l.length ≤ 200) (x : S24) (hx : 0 ≤ x.f0 ∧ x.f0 ≤ 33) (Al Aa : Option Addr) (cl ca : Nat) (W : World) (hL : Kd.C k24 W Al l.length l) (hcl : l.length ≤ cl) (hA : Kd.C (Kd.int .i64) W Aa l.length (cycF l).at_) (hca : l.length ≤ ca) :
    Calls Try.prog 41 #[.slice Al l.length cl, .agg #[.int .i64 x.f0, .int .i64 x.f1, .int .i64 x.f2, .int .i64 x.f3, .int .i64 x.f4, .string x.f5], .slice Aa l.length ca] W fun e w' => e = .returned (.int .i64 (lastOf l x (cycF l).at_)) ∧ Below W.heap.size W w' := by
  obtain ⟨hla, hls⟩ := cyc_len ho
  have h := r13_Last.calls 6000 Al cl l x.f0 x.f1 x.f2 x.f3 x.f4 x.f5 Aa ca (cycF l).at_ _ W hL hcl (by rw [hla]; exact hA) (by omega) (rlast_eq l (by omega) (okA_L ho) x hx (cycF l).at_ hla (by omega))
  rw [hla] at h
  exact h
def r13_Bundles.f (k : Nat) (lb : List ByteArray) (l : List S24) (a2 a3 a4 a5 a6 : Int) (a7 : ByteArray) : Option (List S81) :=
  if lb.isEmpty = true ∧ mayBlk l ⟨a2, a3, a4, a5, a6, a7⟩ = true then some (bunF l ⟨a2, a3, a4, a5, a6, a7⟩) else none
theorem ref_bundles (A0_0 : Option Addr) (c0_0 : Nat) (A0_1 : Option Addr) (c0_1 : Nat) (l : List S24) (x : S24) (w : World) (hr0_1 : Kd.C k24 w A0_1 l.length l) (hc0_1 : l.length ≤ c0_1) (ho : okA l) (hn : l.length ≤ 200) (hx : 0 ≤ x.f0 ∧ x.f0 ≤ 33) :
    Calls Try.prog 77 #[.agg #[.slice A0_0 0 c0_0, .slice A0_1 l.length c0_1, .int .i64 x.f0, .int .i64 x.f1, .int .i64 x.f2, .int .i64 x.f3, .int .i64 x.f4, .string x.f5]] w fun e w' => ∃ v0_ : Value, e = .returned (v0_) ∧ Kd.R k81 81 w' w.heap.size (fun _ => True) v0_ (bunF l x) ∧ Below w.heap.size w w' := by
  have hu73 := Try.underlying73
  have hu24 := Try.underlying24
  have HL := aM_ hr0_1
  have HO := aM_ ho
  obtain ⟨K, hK⟩ := (ref_cycles l ho hn).rounds
  have HK := aM_ hK
  have hbd := endC_bd ho hn x
  obtain ⟨c, L0, hcL0⟩ : ∃ c L, endC l x = (c, L) := ⟨_, _, rfl⟩
  rw [hcL0] at hbd
  simp only at hbd
  obtain ⟨L, rfl⟩ := Int.eq_ofNat_of_zero_le hbd.1
  have hlong1 : L ≤ 2000 := by have := hbd.2.1; omega
  have HCL := aM_ hcL0
  have HBD := aM_ hbd
  obtain ⟨hla, hls⟩ := cyc_len ho
  have hat : ∀ i : Nat, i < l.length → 0 ≤ rd (cycF l).at_ i ∧ rd (cycF l).at_ i ≤ 799 := fun i hi => (cyc_in ho hn i hi).1
  have HIN := aM_ (fun i hi => cyc_in ho hn i hi)
  have HLU := aM_ (longUp_bd l (cycF l).at_ hat)
  have HLO := aM_ (lastOf_bd x l (cycF l).at_ hat)
  clear hr0_1 ho hK hcL0 hbd hat
  go_enter Try.func77, Try.ntmps77
  go_wp2_with (first | ((with_reducible refine gate_dst (N := 1) rfl ?_); refine bX_ (N := 1) (cs := #[.slice A0_0 0 c0_0, .slice A0_1 l.length c0_1, .int .i64 x.f0, .int .i64 x.f1, .int .i64 x.f2, .int .i64 x.f3, .int .i64 x.f4, .string x.f5]) (t := 73) ?_; intro gb hgb w1 hbox hb; have x1 : w1.cell? ⟨gb, 1, none⟩ = some (.slice A0_1 l.length c0_1) := (bC_ hbox 1).trans rfl; have BX := aM_ hbox; have HB := aM_ hb; clear hbox hb hgb) | (go_at_call 74; refine (r13_Cycles.calls K A0_1 c0_1 l (cycF l).at_ (cycF l).sl _ (Kd.C_below HL.out HB.out) hc0_1 HK.out).mono ?_; rintro e w2 ⟨va, vs, rfl, hra, hrs, hb⟩; have RA := aM_ hra; have RS := aM_ hrs; have BX2 := aM_ (kB_ BX.out hb); have HB2 := aM_ (HB.out.trans (hb.mono HB.out.size)); clear hra hrs hb x1))
  obtain ⟨Aa, ca, hva⟩ := Kd.R_slice RA.out
  obtain ⟨As, cs, hvs⟩ := Kd.R_slice RS.out
  subst hva
  subst hvs
  have hca := (Kd.R_reads' RA.out).2.1
  have hcs := (Kd.R_reads' RS.out).2.1
  have CA := aM_ (Kd.R_reads' RA.out).2.2
  have CS := aM_ (Kd.R_reads' RS.out).2.2
  have CL := aM_ (Kd.C_below HL.out HB2.out)
  rw [hla] at hca CA ⊢
  rw [hls] at hcs CS ⊢
  clear RA RS HB BX HK HL
  go_loopw [5, 6] (fun n i wr => ∃ j : Nat, j ≤ l.length ∧ n = .int .i64 (longUp l (cycF l).at_ j) ∧ i = .int .i64 j ∧ As_ (Below w2.heap.size w2 wr)) (fun _ i _ => l.length - (intOf i).toNat)
  case atStart => exact ⟨0, Nat.zero_le _, rfl, rfl, ⟨Below.refl _ _⟩⟩
  case round =>
    obtain ⟨j, hj, rfl, rfl, HB⟩ := hrel
    have x1r : wr.cell? ⟨gb, 1, none⟩ = some (.slice A0_1 l.length c0_1) := (bC_ ((HB.out.block gb (blk_lt BX2.out)).trans BX2.out) 1).trans rfl
    by_cases hlt : j < l.length
    · have hj1 : j + 1 ≤ l.length := hlt
      have hme : l.length - (intOf (Value.int .i64 ((j + 1 : Nat) : Int))).toNat < l.length - (intOf (Value.int .i64 (j : Int))).toNat := by
        show l.length - ((j + 1 : Nat) : Int).toNat < l.length - ((j : Nat) : Int).toNat
        rw [Int.toNat_natCast, Int.toNat_natCast]; omega
      have HJ1 := aM_ hj1
      have HME := aM_ hme
      clear hj1 hme
      have HB1 := aM_ (b1_ HB.out)
      obtain ⟨ad, e1, hx0, hx1, hx2, hx3, hx4, hx5⟩ := at_T24 (Kd.C_below CL.out HB1.out) (j : Int) (Int.natCast_nonneg _) (by omega)
      subst e1
      clear hx1 hx2 hx3 hx4 hx5
      obtain ⟨ada, e2, ha⟩ := Kd.at_int (Kd.C_below CA.out HB1.out) (j : Int) (Int.natCast_nonneg _) (by omega)
      subst e2
      rw [Int.toNat_natCast] at hx0 ha
      have hin := HIN.out j hlt
      have hop := okI_op (okA_L HO.out j hlt)
      have hnv := HLU.out j hj
      have hup : longUp l (cycF l).at_ (j + 1) = mx (longUp l (cycF l).at_ j) (wrap64 (rd (cycF l).at_ j + lateOp (q24 l j).f0)) := rfl
      generalize hai : rd (cycF l).at_ (j : Int) = av at ha hin hup
      generalize hop2 : (q24 l (j : Int)).f0 = op at hx0 hop hup
      have HUP2 : As_ (longUp l (cycF l).at_ (j + 1) = longUp l (cycF l).at_ (j + 1)) := ⟨rfl⟩
      obtain ⟨nj, hnj⟩ : ∃ nj, longUp l (cycF l).at_ (j + 1) = nj := ⟨_, rfl⟩
      rw [hnj] at hup
      have HNJ := aM_ hnj
      clear hnj HUP2
      generalize longUp l (cycF l).at_ j = nv at hup hnv ⊢
      have hup2 : (if nv < wrap64 (av + lateOp op) then wrap64 (av + lateOp op) else nv) = nj := hup.symm
      have hLat := rlate_eq (k := 5) (by omega) op hop.1 hop.2
      have p1 : ((0 : Int) ≤ (j : Int)) = True := eq_true (Int.natCast_nonneg _)
      have q1 : ((j : Int) < (l.length : Int)) = True := eq_true (by omega)
      have q1n : (j < l.length) = True := eq_true hlt
      have hw2 : wrap64 ((j : Int) + 1) = ((j + 1 : Nat) : Int) := by unfold wrap64; omega
      have HUP := aM_ hup
      have HLA := aM_ hLat
      clear hin hop hnv hai hop2 hLat hup
      go_wp2
      refine start_ (n := 15) (S := fun w' => w'.cell? ⟨gb, 1, none⟩ = some (.slice (some ad) l.length c0_1) ∧ w'.cell? (ada.add j) = some (.int .i64 av) ∧ w'.cell? (ad.add (j * 6)) = some (.int .i64 op)) (ds := []) (bm 15 0) (by kernel_rfl) rfl (by kernel_rfl) ⟨x1r, ha, hx0⟩ (fun hHeld => ?_); refine with_tabW refbun77.tab6 refbun77.bits6 (fun HT_ HW_ => ?_)
      clear x1r HB ha hx0
      generalize wr.drew = w5 at HB1 hHeld ⊢
      refine seq_ (k := 4) [(0, some 23, false), (1, some 24, false), (2, some 25, false), (3, some 26, false), (5, some 28, false), (7, some 30, false), (4, some 27, true), (6, some 29, true), (8, some 31, false), (9, some 32, false), (10, some 33, true)] #[true, true, true, true, true, true, true, true, true, true, true, false, false, false, false] rfl (seq_of HT_.out HW_.out (by kernel_rfl)) (fun _ _ _ _ _ h => h) hHeld ?_
      repeat (first | (refine SeqOn.pure (v := ?_) (a' := ?_) rfl rfl (Or.inl ⟨by kernel_rfl, ?_⟩) ?_ ?_; rotate_left 2; (focus (intro w'; go_simp; with_reducible rfl)); (focus exact pU_)) | (refine SeqOn.take (v := ?_) (a' := ?_) rfl rfl (Or.inl ⟨by kernel_rfl, ?_⟩) ?_ ?_; rotate_left 2; (focus (rintro w' ⟨s0, s1, s2⟩; go_simp; with_reducible rfl)); (focus exact pU_)))
      refine SeqOn.nil ?_
      refine one_ (i := 11) (N := some 34) #[true, true, true, true, true, true, true, true, true, true, true, true, false, false, false] rfl rfl (one_of HT_.out (by kernel_rfl)) (by decide) (fun K hK => ?_)
      refine gO_ Try.func27 #[.int .i64 op] rfl ?_
      with_reducible refine (r3_Latency.calls 5 op (lateOp op) _ HLA.out).mono ?_
      rintro e w' ⟨rfl, ⟨nd, rfl⟩⟩
      refine ⟨_, rfl, ?_⟩
      refine hK.out _ _ hHeld (fun hHeld => ?_)
      clear hK K
      refine norm_ (a' := ?_) ?_ ?_
      rotate_left
      · show Act.put _ (some 34) _ = _
        simp only [Act.put, List.setIfInBounds_toArray, List.set_cons_zero, List.set_cons_succ, i64_w, i32_w]
        rfl
      refine seq_ (k := 0) [(12, some 35, false), (13, some 36, false), (14, some 5, false)] #[true, true, true, true, true, true, true, true, true, true, true, true, true, true, true] rfl (seq_of HT_.out HW_.out (by kernel_rfl)) (fun _ _ _ _ _ h => h) hHeld ?_
      repeat (first | (refine SeqOn.pure (v := ?_) (a' := ?_) rfl rfl (Or.inl ⟨by kernel_rfl, ?_⟩) ?_ ?_; rotate_left 2; (focus (intro w'; go_simp; with_reducible rfl)); (focus exact pU_)) | (refine SeqOn.take (v := ?_) (a' := ?_) rfl rfl (Or.inl ⟨by kernel_rfl, ?_⟩) ?_ ?_; rotate_left 2; (focus (rintro w' ⟨s0, s1, s2⟩; go_simp; with_reducible rfl)); (focus exact pU_)))
      refine SeqOn.nil ?_
      refine done_ (done_of HT_.out (by kernel_rfl)) ?_
      have HB2 := aM_ (bN_ HB1.out nd)
      go_wp2
      refine ⟨⟨j + 1, HJ1.out, by rw [HNJ.out], by rw [hw2], ⟨HB2.out⟩⟩, by rw [hw2]; exact HME.out⟩
    · obtain rfl : j = l.length := by omega
      have q1 : ((l.length : Int) < (l.length : Int)) = False := eq_false (by omega)
      have BX6 := (HB.out.block gb (blk_lt BX2.out)).trans BX2.out
      have x2 : wr.cell? ⟨gb, 2, none⟩ = some (.int .i64 x.f0) := (bC_ BX6 2).trans rfl
      clear BX6
      go_upto_if 40 with (fail)
      go_cut [5, 7] (fun v5 v7 wc => v5 = .int .i64 (L : Int) ∧ v7 = .int .i64 c ∧ As_ (Below w2.heap.size w2 wc))
      case first =>
        have hcL := HCL.out
        unfold endC at hcL
        by_cases h0 : x.f0 = 0
        · rw [if_pos h0] at hcL
          injection hcL with h1 h2
          have c0b0 : (x.f0 == 0) = true := beq_iff_eq.mpr h0
          have c0b1 : (x.f0 != 0) = false := bne_eq_false_iff_eq.mpr h0
          clear h0
          first | rw [c0b1] | (simp only [i64_w, i32_w]; rw [c0b1]) | skip
          go_wp2
          go_meet
          case rel => exact ⟨by rw [h2], by rw [h1], ⟨HB.out⟩⟩
        · rw [if_neg h0] at hcL
          injection hcL with h1 h2
          have c0b0 : (x.f0 == 0) = false := beq_eq_false_iff_ne.mpr h0
          have c0b1 : (x.f0 != 0) = true := bne_iff_ne.mpr h0
          clear h0
          first | rw [c0b1] | (simp only [i64_w, i32_w]; rw [c0b1]) | skip
          have BX6 := aM_ ((HB.out.block gb (blk_lt BX2.out)).trans BX2.out)
          have CA6 := aM_ (Kd.C_below CA.out HB.out)
          have CS6 := aM_ (Kd.C_below CS.out HB.out)
          have CL6 := aM_ (Kd.C_below CL.out HB.out)
          have y1 : wr.cell? ⟨gb, 1, none⟩ = some (.slice A0_1 l.length c0_1) := (bC_ BX6.out 1).trans rfl
          have y3 : wr.cell? ⟨gb, 3, none⟩ = some (.int .i64 x.f1) := (bC_ BX6.out 3).trans rfl
          have y4 : wr.cell? ⟨gb, 4, none⟩ = some (.int .i64 x.f2) := (bC_ BX6.out 4).trans rfl
          have y5 : wr.cell? ⟨gb, 5, none⟩ = some (.int .i64 x.f3) := (bC_ BX6.out 5).trans rfl
          have y6 : wr.cell? ⟨gb, 6, none⟩ = some (.int .i64 x.f4) := (bC_ BX6.out 6).trans rfl
          have y7 : wr.cell? ⟨gb, 7, none⟩ = some (.string x.f5) := (bC_ BX6.out 7).trans rfl
          have H12 := aM_ (And.intro h1 h2)
          clear h1 h2 CA CS CL
          go_wp2_with (first | (go_at_call 41; refine (rlast_calls l HO.out hn x hx A0_1 Aa c0_1 ca _ CL6.out hc0_1 CA6.out hca).mono ?_; rintro e w4 ⟨rfl, hb⟩; have HB4 := aM_ (HB.out.trans (hb.mono HB.out.size)); have CA := aM_ (Kd.C_below CA6.out hb); have CS := aM_ (Kd.C_below CS6.out hb); have BX7 := aM_ (kB_ BX6.out hb); clear hb y1 y3 y4 y5 y6 y7 x2 CL6 CA6 CS6 BX6 HB))
          go_loopw [7] (fun t wq => ∃ (f : Nat) (d : Int), t = .int .i64 d ∧ As_ (f ≤ 1000 ∧ 0 ≤ d ∧ d + f ≤ 1900 ∧ 799 < d + f ∧ freeFrom (cycF l).at_ (cycF l).sl l.length f d = c) ∧ As_ (Below w4.heap.size w4 wq)) (fun t _ => 3000 - (intOf t).toNat)
          case atStart => exact ⟨1000, _, rfl, ⟨by omega, HLO.out.1, by have := HLO.out.2; omega, by have := HLO.out.1; omega, H12.out.1⟩, ⟨Below.refl _ _⟩⟩
          case round =>
            obtain ⟨f, d, rfl, HD, HQ⟩ := hrel
            have CAq := aM_ (Kd.C_below CA.out HQ.out)
            have CSq := aM_ (Kd.C_below CS.out HQ.out)
            cases hbz : takenUp (cycF l).at_ (cycF l).sl d 0 l.length with
            | true =>
              have hf : ∃ f', f = f' + 1 := by
                cases f with
                | zero =>
                  have h3 := freeFrom_free (cycF l).at_ (cycF l).sl l.length 799 (fun i hi => (HIN.out i hi).1.2) 0 d HD.out.2.2.2.1
                  rw [freeFrom, hbz] at h3
                  exact absurd h3 (by simp)
                | succ f' => exact ⟨f', rfl⟩
              obtain ⟨f', rfl⟩ := hf
              have hD := HD.out
              rw [freeFrom, if_pos hbz] at hD
              have hw3 : wrap64 (d + 1) = d + 1 := wrapS _ (by omega) (by omega)
              have hme : 3000 - (intOf (Value.int .i64 (d + 1))).toNat < 3000 - (intOf (Value.int .i64 d)).toNat := by
                show 3000 - (d + 1).toNat < 3000 - d.toNat
                omega
              have HME := aM_ hme
              have HD2 : As_ (f' ≤ 1000 ∧ 0 ≤ d + 1 ∧ (d + 1) + f' ≤ 1900 ∧ 799 < (d + 1) + f' ∧ freeFrom (cycF l).at_ (cycF l).sl l.length f' (d + 1) = c) := ⟨by omega, by omega, by omega, by omega, hD.2.2.2.2⟩
              have HBZ := aM_ hbz
              clear hD hme HD hbz
              go_wp2_with (go_at_call 107; refine (busy_calls l HO.out hn Aa As ca cs d _ CAq.out hca CSq.out hcs).mono ?_; rintro e w' ⟨rfl, ⟨nd, rfl⟩⟩; rw [HBZ.out])
              refine ⟨⟨f', d + 1, by rw [hw3], HD2, ⟨bN_ HQ.out nd⟩⟩, by rw [hw3]; exact HME.out⟩
            | false =>
              have hD := HD.out
              have hdc : d = c := by
                cases f with
                | zero => have h4 := hD.2.2.2.2; rw [freeFrom] at h4; exact h4
                | succ f' => have h4 := hD.2.2.2.2; rw [freeFrom, if_neg (by rw [hbz]; simp)] at h4; exact h4
              subst hdc
              have hw3 : wrap64 (d + 1) = d + 1 := wrapS _ (by omega) (by omega)
              have hw4 : wrap64 (d + 1 + 2) = d + 1 + 2 := wrapS _ (by omega) (by omega)
              have HBZ := aM_ hbz
              clear hD HD hbz
              have z2 : wr.cell? ⟨gb, 2, none⟩ = some (.int .i64 x.f0) := (bC_ (kB_ BX7.out HQ.out) 2).trans rfl
              have hL := H12.out.2
              rw [H12.out.1] at hL
              by_cases h33 : x.f0 = 33
              · rw [if_pos h33] at hL
                have c3b1 : (x.f0 != 33) = false := bne_eq_false_iff_eq.mpr h33
                clear h33
                have HL := aM_ hL
                clear hL
                go_wp2_with (go_at_call 107; refine (busy_calls l HO.out hn Aa As ca cs d _ CAq.out hca CSq.out hcs).mono ?_; rintro e w' ⟨rfl, ⟨nd, rfl⟩⟩; rw [HBZ.out])
                go_meet
                case rel => exact ⟨by rw [← HL.out, hw3], rfl, ⟨HB4.out.trans ((bN_ HQ.out nd).mono HB4.out.size)⟩⟩
              · rw [if_neg h33] at hL
                have c3b1 : (x.f0 != 33) = true := bne_iff_ne.mpr h33
                clear h33
                have HL := aM_ hL
                clear hL
                go_wp2_with (go_at_call 107; refine (busy_calls l HO.out hn Aa As ca cs d _ CAq.out hca CSq.out hcs).mono ?_; rintro e w' ⟨rfl, ⟨nd, rfl⟩⟩; rw [HBZ.out])
                go_meet
                case rel => exact ⟨by rw [← HL.out, hw4], rfl, ⟨HB4.out.trans ((bN_ HQ.out nd).mono HB4.out.size)⟩⟩
      case rest =>
        obtain ⟨rfl, rfl, HBc⟩ := hcut
        clear q1 x1r x2 HB
        have HB4 := aM_ (HB2.out.trans (HBc.out.mono HB2.out.size))
        have BX4 := aM_ ((HBc.out.block gb (blk_lt BX2.out)).trans BX2.out)
        have CA4 := aM_ (Kd.C_below CA.out HBc.out)
        have CS4 := aM_ (Kd.C_below CS.out HBc.out)
        have CL4 := aM_ (Kd.C_below CL.out HBc.out)
        clear CA CS CL HB2 BX2 HLU HLO
        go_wp2_with ((with_reducible refine gate_dst (N := 62) rfl ?_); refine Kd.R_make k81 _ 81 rfl (N := 62) rfl 65 _ _ rfl (L : Int) rfl rfl Try.underlying65 (.agg #[(.int .i64 0), (.int .i64 0), (.int .i64 0), (.int .i64 0), (.int .i64 0), (.string ⟨#[]⟩), (.int .i64 0), (.int .i64 0), (.int .i64 0), (.int .i64 0), (.int .i64 0), (.string ⟨#[]⟩), (.int .i64 0), (.int .i64 0), (.int .i64 0), (.int .i64 0), (.int .i64 0), (.string ⟨#[]⟩), (.int .i64 0), (.int .i64 0), (.int .i64 0), (.int .i64 0), (.int .i64 0), (.string ⟨#[]⟩)]) 224 info81 rfl (by decide) (by omega) z81 (ok := fun _ => True) (okp := fun _ => True) (k81_mkM _ _ _ z81) (fun _ hk => hk) trivial (Int.natCast_nonneg _) (by omega) (Below.refl _ _) (Nat.le_refl _) ?_; intro vc w5 hR5 hb5 _ hn5; rw [Int.toNat_natCast] at hR5; obtain ⟨gc, cap, hvc, hgc⟩ := R81_shape hR5 hn5; subst hvc; rw [List.length_replicate] at hR5; have HR5 := aM_ hR5; have HB5 := aM_ hb5; have HGC := aM_ hgc; clear hR5 hb5 hn5 hgc)
        go_loopw [9] (fun i wr => ∃ j : Nat, j ≤ l.length ∧ i = .int .i64 j ∧ As_ (Kd.R k81 81 wr wc.heap.size (fun _ => True) (.slice (some ⟨gc, 0, none⟩) L cap) (bunUp l (cycF l).at_ (cycF l).sl (List.replicate L z81) j)) ∧ As_ (Below wc.heap.size wc wr)) (fun i _ => l.length - (intOf i).toNat)
        case atStart => exact ⟨0, Nat.zero_le _, rfl, ⟨HR5.out⟩, ⟨HB5.out⟩⟩
        case round =>
          clear HR5 HB5
          obtain ⟨j, hj, rfl, HR, HB⟩ := hrel
          have BX6 := aM_ ((HB.out.block gb (blk_lt BX4.out)).trans BX4.out)
          have x1q : wr.cell? ⟨gb, 1, none⟩ = some (.slice A0_1 l.length c0_1) := (bC_ BX6.out 1).trans rfl
          by_cases hlt : j < l.length
          · have hme : l.length - (intOf (Value.int .i64 ((j + 1 : Nat) : Int))).toNat < l.length - (intOf (Value.int .i64 (j : Int))).toNat := by
              show l.length - ((j + 1 : Nat) : Int).toNat < l.length - ((j : Nat) : Int).toNat
              rw [Int.toNat_natCast, Int.toNat_natCast]; omega
            have HJ1 : As_ (j + 1 ≤ l.length) := ⟨hlt⟩
            have HME := aM_ hme
            clear hme
            have HR1 := aM_ (Kd.R_drew HR.out)
            have HB1 := aM_ (b1_ HB.out)
            obtain ⟨ad, e1, hx0, hx1, hx2, hx3, hx4, hx5⟩ := at_T24 (Kd.C_below CL4.out HB1.out) (j : Int) (Int.natCast_nonneg _) (by omega)
            subst e1
            obtain ⟨ada, e2, ha⟩ := Kd.at_int (Kd.C_below CA4.out HB1.out) (j : Int) (Int.natCast_nonneg _) (by omega)
            subst e2
            obtain ⟨ads, e3, hs⟩ := Kd.at_int (Kd.C_below CS4.out HB1.out) (j : Int) (Int.natCast_nonneg _) (by omega)
            subst e3
            rw [Int.toNat_natCast] at hx0 hx1 hx2 hx3 hx4 hx5 ha hs
            have hin := HIN.out j hlt
            have hlt2 := HBD.out.2.2.2.2 j hlt
            have hbun : bunUp l (cycF l).at_ (cycF l).sl (List.replicate L z81) (j + 1) = (bunUp l (cycF l).at_ (cycF l).sl (List.replicate L z81) j).set (rd (cycF l).at_ j).toNat (put81 (q81 (bunUp l (cycF l).at_ (cycF l).sl (List.replicate L z81) j) (rd (cycF l).at_ j)) (rd (cycF l).sl j) (q24 l j)) := rfl
            have HBU := aM_ hbun
            clear hbun
            generalize hai : rd (cycF l).at_ (j : Int) = va at ha hin hlt2 HBU
            generalize hsi : rd (cycF l).sl (j : Int) = vs at hs hin HBU
            obtain ⟨av, rfl⟩ := Int.eq_ofNat_of_zero_le hin.1.1
            obtain ⟨sv, rfl⟩ := Int.eq_ofNat_of_zero_le hin.2.1
            have hav : av < L := by omega
            have hsv : sv < 4 := by omega
            clear hin hlt2 hai hsi
            have HAV := aM_ hav
            have HSV := aM_ hsv
            have p1 : ((0 : Int) ≤ (j : Int)) = True := eq_true (Int.natCast_nonneg _)
            have q1 : ((j : Int) < (l.length : Int)) = True := eq_true (by omega)
            have q1n : (j < l.length) = True := eq_true hlt
            have p2 : ((0 : Int) ≤ (av : Int)) = True := eq_true (Int.natCast_nonneg _)
            have q2 : ((av : Int) < (L : Int)) = True := eq_true (by omega)
            have q2n : (av < L) = True := eq_true hav
            have p3 : ((0 : Int) ≤ (sv : Int)) = True := eq_true (Int.natCast_nonneg _)
            have q3 : ((sv : Int) < 4) = True := eq_true (by omega)
            have q3n : (sv < 4) = True := eq_true hsv
            clear hav hsv
            have hw2 : wrap64 ((j : Int) + 1) = ((j + 1 : Nat) : Int) := by unfold wrap64; omega
            generalize hy : q24 l (j : Int) = y at hx0 hx1 hx2 hx3 hx4 hx5 HBU
            go_wp2
            refine start_ (n := 17) (S := fun w' => w'.cell? ⟨gb, 1, none⟩ = some (.slice (some ad) l.length c0_1) ∧ w'.cell? (ada.add j) = some (.int .i64 av) ∧ w'.cell? (ads.add j) = some (.int .i64 sv) ∧ w'.cell? (ad.add (j * 6)) = some (.int .i64 y.f0) ∧ w'.cell? ⟨(ad.add (j * 6)).block, (ad.add (j * 6)).off + 1, none⟩ = some (.int .i64 y.f1) ∧ w'.cell? ⟨(ad.add (j * 6)).block, (ad.add (j * 6)).off + 2, none⟩ = some (.int .i64 y.f2) ∧ w'.cell? ⟨(ad.add (j * 6)).block, (ad.add (j * 6)).off + 3, none⟩ = some (.int .i64 y.f3) ∧ w'.cell? ⟨(ad.add (j * 6)).block, (ad.add (j * 6)).off + 4, none⟩ = some (.int .i64 y.f4) ∧ w'.cell? ⟨(ad.add (j * 6)).block, (ad.add (j * 6)).off + 5, none⟩ = some (.string y.f5)) (ds := [16]) (bm 17 0) (by kernel_rfl) rfl (by kernel_rfl) ⟨x1q, ha, hs, hx0, hx1, hx2, hx3, hx4, hx5⟩ (fun hHeld => ?_); refine with_tabW refbun77.tab19 refbun77.bits19 (fun HT_ HW_ => ?_)
            clear x1q ha hs hx0 hx1 hx2 hx3 hx4 hx5 BX6 HR HB
            generalize wr.drew = W5 at HR1 HB1 hHeld ⊢
            refine seq_ (k := 1) [(0, some 70, false), (1, some 71, false), (2, some 72, false), (3, some 73, false), (5, some 75, false), (6, some 76, false), (7, some 77, false), (9, some 79, false), (11, some 81, false), (4, some 74, true), (14, some 84, false), (8, some 78, true), (10, some 80, true), (12, some 82, false), (13, some 83, true), (15, some 85, false)] (bm 17 65535) rfl (seq_of HT_.out HW_.out (by kernel_rfl)) (fun _ _ _ _ _ h => h) hHeld ?_
            repeat (first | (refine SeqOn.pure (v := ?_) (a' := ?_) rfl rfl (Or.inl ⟨by kernel_rfl, ?_⟩) ?_ ?_; rotate_left 2; (focus (intro w'; go_simp; with_reducible rfl)); (focus exact pU_)) | (refine SeqOn.take (v := ?_) (a' := ?_) rfl rfl (Or.inl ⟨by kernel_rfl, ?_⟩) ?_ ?_; rotate_left 2; (focus (rintro w' ⟨s0, s1, s2, s3, s4, s5, s6, s7, s8⟩; go_simp; with_reducible rfl)); (focus exact pU_)))
            refine SeqOn.nil ?_
            obtain ⟨hR2, hg2, hrun⟩ := slot_store HR1.out av HAV.out sv HSV.out y
            have hR3 := aM_ hR2
            have hB3 := aM_ (pw_below_grown HB1.out (some gc) HB1.out.size hg2 (fun k_ e_ => by injection e_ with e_; subst e_; exact HGC.out))
            have hrun3 := aM_ hrun
            clear hR2 hg2 hrun
            refine last_ (i := 16) (N := none) (bm 17 131071) rfl rfl (one_of HT_.out (by kernel_rfl)) (by decide) (fun K hK => ?_)
            refine skip_ (w1 := W5.setCells gc (av * 24 + sv * 6) (insC y)) (by rfl) rfl ?_ ?_
            · have h_ := hrun3.out
              simp only [insC] at h_ ⊢
              simp [execOp, Act.eval, h_, Result.andThen]
            refine hK.out _ _ ?_
            clear hK K hrun3 HR1 HB1 hHeld
            refine done_ (done_of HT_.out (by kernel_rfl)) ?_
            clear HT_ HW_
            generalize W5.setCells gc (av * 24 + sv * 6) (insC y) = W6 at hR3 hB3 ⊢
            go_wp2
            refine ⟨⟨j + 1, HJ1.out, rfl, ⟨by rw [HBU.out]; exact hR3.out⟩, ⟨hB3.out⟩⟩, HME.out⟩
          · obtain rfl : j = l.length := by omega
            have q1 : ((l.length : Int) < (l.length : Int)) = False := eq_false (by omega)
            have hcl2 := HBD.out
            by_cases h0 : 0 ≤ c
            · have c1 : ((0 : Int) ≤ c) = True := eq_true h0
              have c1b : decide ((0 : Int) ≤ c) = true := decide_eq_true h0
              have hcL : c < (L : Int) := hcl2.2.2.1
              clear hcl2
              obtain ⟨cv, rfl⟩ := Int.eq_ofNat_of_zero_le h0
              clear h0
              have p2 : ((0 : Int) ≤ (cv : Int)) = True := eq_true (Int.natCast_nonneg _)
              have q2 : ((cv : Int) < (L : Int)) = True := eq_true hcL
              have hcv : cv < L := by omega
              have q2n : (cv < L) = True := eq_true hcv
              have HCV := aM_ hcv
              clear hcv hcL
              go_wp2
              refine start_ (n := 7) (S := fun w' => w'.cell? ⟨gb, 2, none⟩ = some (.int .i64 x.f0) ∧ w'.cell? ⟨gb, 3, none⟩ = some (.int .i64 x.f1) ∧ w'.cell? ⟨gb, 4, none⟩ = some (.int .i64 x.f2) ∧ w'.cell? ⟨gb, 5, none⟩ = some (.int .i64 x.f3) ∧ w'.cell? ⟨gb, 6, none⟩ = some (.int .i64 x.f4) ∧ w'.cell? ⟨gb, 7, none⟩ = some (.string x.f5)) (ds := [6]) (bm 7 0) (by kernel_rfl) rfl (by kernel_rfl) ⟨(bC_ (kD_ BX6.out) 2).trans rfl, (bC_ (kD_ BX6.out) 3).trans rfl, (bC_ (kD_ BX6.out) 4).trans rfl, (bC_ (kD_ BX6.out) 5).trans rfl, (bC_ (kD_ BX6.out) 6).trans rfl, (bC_ (kD_ BX6.out) 7).trans rfl⟩ (fun hHeld => ?_); refine with_tabW refbun77.tab21 refbun77.bits21 (fun HT_ HW_ => ?_)
              have HR1 := aM_ (Kd.R_drew HR.out)
              have HB1 := aM_ (b1_ HB.out |> fun h_ => (h_ : Below wc.heap.size wc wr.drew))
              clear HR HB BX6 x1q
              generalize wr.drew = W5 at HR1 HB1 hHeld ⊢
              refine seq_ (k := 1) [(0, some 88, false), (1, some 89, false), (2, some 90, false), (3, some 91, true), (4, some 92, false), (5, some 93, false)] #[true, true, true, true, true, true, false] rfl (seq_of HT_.out HW_.out (by kernel_rfl)) (fun _ _ _ _ _ h => h) hHeld ?_
              repeat (first | (refine SeqOn.pure (v := ?_) (a' := ?_) rfl rfl (Or.inl ⟨by kernel_rfl, ?_⟩) ?_ ?_; rotate_left 2; (focus (intro w'; go_simp; with_reducible rfl)); (focus exact pU_)) | (refine SeqOn.take (v := ?_) (a' := ?_) rfl rfl (Or.inl ⟨by kernel_rfl, ?_⟩) ?_ ?_; rotate_left 2; (focus (rintro w' ⟨s0, s1, s2, s3, s4, s5⟩; go_simp; with_reducible rfl)); (focus exact pU_)))
              refine SeqOn.nil ?_
              obtain ⟨hR2, hg2, hrun⟩ := slot_store HR1.out cv HCV.out 0 (by omega) x
              have hR3 := aM_ hR2
              have hB3 := aM_ (pw_below_grown HB1.out (some gc) HB1.out.size hg2 (fun k_ e_ => by injection e_ with e_; subst e_; exact HGC.out))
              have hrun3 := aM_ hrun
              clear hR2 hg2 hrun
              refine last_ (i := 6) (N := none) #[true, true, true, true, true, true, true] rfl rfl (one_of HT_.out (by kernel_rfl)) (by decide) (fun K hK => ?_)
              refine skip_ (w1 := W5.setCells gc (cv * 24 + 0 * 6) (insC x)) (by rfl) rfl ?_ ?_
              · have h_ := hrun3.out
                simp only [insC, Nat.zero_mul, Nat.add_zero] at h_ ⊢
                simp [execOp, Act.eval, h_, Result.andThen]
              refine hK.out _ _ ?_
              clear hK K hrun3 HR1 HB1 hHeld
              refine done_ (done_of HT_.out (by kernel_rfl)) ?_
              clear HT_ HW_
              generalize W5.setCells gc (cv * 24 + 0 * 6) (insC x) = W6 at hR3 hB3 ⊢
              go_wp2
              go_ret
              refine ⟨_, rfl, Kd.R_lower ?_ HB4.out.size, HB4.out.trans (hB3.out.mono HB4.out.size)⟩
              have hc : (endC l x).1 = cv := by rw [HCL.out]
              have hL2 : (endC l x).2.toNat = L := by rw [HCL.out]; simp
              unfold bunF bunAll
              rw [hc, if_pos (Int.natCast_nonneg _), hL2, Int.toNat_natCast]
              exact hR3.out
            · have c1 : ((0 : Int) ≤ c) = False := eq_false h0
              have c1b : decide ((0 : Int) ≤ c) = false := decide_eq_false h0
              clear hcl2
              have H0 := aM_ h0
              clear h0
              go_wp2
              go_ret
              refine ⟨_, rfl, Kd.R_lower ?_ HB4.out.size, HB4.out.trans (HB.out.mono HB4.out.size)⟩
              have hc : (endC l x).1 = c := by rw [HCL.out]
              have hL2 : (endC l x).2.toNat = L := by rw [HCL.out]; simp
              unfold bunF bunAll
              rw [hc, if_neg (by have := H0.out; omega), hL2]
              exact HR.out
theorem r13_Bundles.calls (k : Nat) (A0_0 : Option Addr) (c0_0 : Nat) (l0_0 : List ByteArray) (A0_1 : Option Addr) (c0_1 : Nat) (l0_1 : List (S24)) (a0_2 : Int) (a0_3 : Int) (a0_4 : Int) (a0_5 : Int) (a0_6 : Int) (a0_7 : ByteArray) (r : List (S81)) (w : World) (hr0_0 : Kd.C Kd.string w A0_0 l0_0.length l0_0) (hc0_0 : l0_0.length ≤ c0_0) (hr0_1 : Kd.C k24 w A0_1 l0_1.length l0_1) (hc0_1 : l0_1.length ≤ c0_1) (h : r13_Bundles.f k l0_0 l0_1 a0_2 a0_3 a0_4 a0_5 a0_6 a0_7 = some r) :
    Calls Try.prog 77 #[.agg #[.slice A0_0 l0_0.length c0_0, .slice A0_1 l0_1.length c0_1, .int .i64 a0_2, .int .i64 a0_3, .int .i64 a0_4, .int .i64 a0_5, .int .i64 a0_6, .string a0_7]] w fun e w' => ∃ v0_ : Value, e = .returned (v0_) ∧ Kd.R k81 81 w' w.heap.size (fun _ => True) v0_ r ∧ Below w.heap.size w w' := by
  unfold r13_Bundles.f at h
  split at h
  · rename_i hg
    obtain ⟨hlb, hm⟩ := hg
    have hl0 : l0_0 = [] := by simpa using hlb
    subst hl0
    have h := Option.some.inj h
    subst h
    obtain ⟨ho, hn, hx⟩ := mayBlk_parts hm
    exact ref_bundles A0_0 c0_0 A0_1 c0_1 l0_1 ⟨a0_2, a0_3, a0_4, a0_5, a0_6, a0_7⟩ w hr0_1 hc0_1 ho hn hx
  · exact absurd h (by simp)
end
end Go.Proofs.Ytibfkkjkahpobaa.PDag
