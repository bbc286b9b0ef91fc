import Derived.Test.YtibfkkjkahpobaaKq18
import Derived.Test.YtibfkkjkahpobaaKq30
import Derived.Test.YtibfkkjkahpobaaKq27
import Derived.WideMake
set_option linter.unusedVariables false
set_option linter.unusedSimpArgs false
open Go.RowKit Go.Proofs.YtibfkkjkahpobaaW.PrintWords Go.Proofs.YtibfkkjkahpobaaW.PrintLast Go.Proofs.YtibfkkjkahpobaaW.PrintMore
section
namespace Go.Proofs.Ytibfkkjkahpobaa.PDag
attribute [local go_sem] max2_int min2_int max_two min_two max_three min_three max_four min_four   -- for this text's walks alone
set_option maxHeartbeats 8000000 in
set_option maxRecDepth 100000 in
theorem block_May_1.calls (k : Nat) (a0_0 : Int) (a0_1 : Int) (a0_2 : Int) (a0_3 : Int) (a0_4 : Int) (a0_5 : ByteArray) (r : Bool) (w : World) (h : dag_May_1.f k a0_0 a0_1 a0_2 a0_3 a0_4 a0_5 = some r) :
    Calls Try.prog 112 #[.agg #[.int .i64 a0_0, .int .i64 a0_1, .int .i64 a0_2, .int .i64 a0_3, .int .i64 a0_4, .string a0_5]] w fun e w' => e = .returned (.bool r) ∧ Below w.heap.size w w' := by
  have hu24 := Try.underlying24
  have HB := As_.mk (Below.refl w.heap.size w)
  have H : ((block_Plain.f k a0_0 a0_1 a0_2 a0_3 a0_4 a0_5).bind fun t125 => (some (!t125))) = some r := h
  clear h
  replace H := oB_ H
  obtain ⟨t125, A20, H⟩ := H
  have A2 := As_.mk A20
  clear A20
  obtain rfl := oI_ H
  go_enter Try.func112, Try.ntmps112
  go_wp2_with (first | ((with_reducible refine gate_dst (N := 1) rfl ?_); refine bX_ (N := 1) (cs := #[.int .i64 a0_0, .int .i64 a0_1, .int .i64 a0_2, .int .i64 a0_3, .int .i64 a0_4, .string a0_5]) (t := 24) ?_; intro gb124 hg w3 hbox hb; replace BK124 := As_.mk (hbox); replace GW124 := As_.mk ((by rw [hg]; exact (bY_ (bl_ HB)) : w.heap.size ≤ gb124)); replace GE124 := As_.mk ((by rw [hg]; exact (bY_ (bl_ HB)) : w.heap.size ≤ gb124)); replace HB := As_.mk (bT_ (bl_ HB) hb); clear hb hbox hg; obtain ⟨hcz4_0, hcz4_1, hcz4_2, hcz4_3, hcz4_4, hcz4_5⟩ := cl6_ BK124.out; obtain ⟨hfz4_0, hfz4_1, hfz4_2, hfz4_3, hfz4_4, hfz4_5⟩ := fz6_ BK124.out) | ((with_reducible refine gC_ (f := 90) rfl ?_); refine gL_ (some 4) Try.func90 #[.agg #[.int .i64 a0_0, .int .i64 a0_1, .int .i64 a0_2, .int .i64 a0_3, .int .i64 a0_4, .string a0_5]] rfl ?_; (with_reducible refine (block_Plain.calls k a0_0 a0_1 a0_2 a0_3 a0_4 a0_5 t125 _ A2.out).mono ?_); rintro e w5 ⟨rfl, hb⟩; refine ⟨_, rfl, ?_⟩; replace BK124 := As_.mk (kB_ (rB_ BK124) hb); replace HB := As_.mk (bT_ (bs_ HB GE124) hb)))
  go_ret
  exact ⟨by first | rfl | (simp [eN_, eS_] <;> rfl) | (simp [*, eN_, eS_] <;> rfl), bs_ HB GE124⟩
set_option maxHeartbeats 8000000 in
set_option maxRecDepth 100000 in
theorem aI112_114112.calls (k : Nat) (A0 : Option Addr) (c0 : Nat) (l0 : List (S24))  (r : Int) (w : World) (hr0 : Kd.C k24 w A0 l0.length l0) (hc0 : l0.length ≤ c0) (h : aI89_114089.f k l0 = some r) :
    Calls Try.prog 114 #[.slice A0 l0.length c0, .func (.func 112) #[] #[]] w fun e w' => e = .returned (.int .i64 r) ∧ Below w.heap.size w w' := by
  have hu24 := Try.underlying24
  have HR0 := As_.mk hr0
  have HC0 := As_.mk hc0
  clear hr0 hc0
  have HB := As_.mk (Below.refl w.heap.size w)
  have H : (aI89_114089.l0 k l0 (l0.length : Int) 0) = some r := h
  clear h
  have H' := As_.mk H
  clear H
  go_enter Try.func114, Try.ntmps114
  go_wp2
  go_loopg [8] k (fun kq v8 w' => ∃ (x8_1 : Int), v8 = .int .i64 x8_1 ∧ As_ (aI89_114089.l0 kq l0 (l0.length : Int) x8_1 = some r) ∧ As_ (kq ≤ k) ∧ As_ (Below w.heap.size w w'))
  case atStart => exact ⟨(0), eQ_, H', ⟨Nat.le_refl _⟩, ⟨bl_ HB⟩⟩
  case round =>
    clear H'
    (try clear c1); (try clear p2)
    obtain ⟨x8_1, rfl, HA, HK1, HB⟩ := hrel
    cases gk with
    | zero => exact absurd HA.out (by simp [aI89_114089.l0])
    | succ k1 =>
      have H := HA.out
      clear HA
      simp only [aI89_114089.l0] at H
      by_cases c3 : x8_1 < (l0.length : Int)
      · rw [if_pos c3] at H
        have c3b0 := decide_eq_true c3
        clear c3
        by_cases c4 : 0 ≤ x8_1
        · rw [if_pos c4] at H
          have c4b0 := decide_eq_true c4
          clear c4
          by_cases c5 : x8_1 < (l0.length : Int)
          · rw [if_pos c5] at H
            have c5b0 := decide_eq_true c5
            clear c5
            replace H := oB_ H
            obtain ⟨t127, A60, H⟩ := H
            have A6 := As_.mk A60
            clear A60
            by_cases c7 : t127 = true
            · subst c7
              rw [if_pos rfl] at H
              obtain rfl := oI_ H
              have p126 : 0 ≤ (x8_1 : Int) := oD_
              have q126 : x8_1 < (l0.length : Int) := oD_
              obtain ⟨ad126, e126, hx126_0, hx126_1, hx126_2, hx126_3, hx126_4, hx126_5⟩ := at_T24 HR0.out x8_1 p126 q126
              cases e126
              replace hx126_0 := hC_ HB hx126_0
              replace hx126_1 := hC_ HB hx126_1
              replace hx126_2 := hC_ HB hx126_2
              replace hx126_3 := hC_ HB hx126_3
              replace hx126_4 := hC_ HB hx126_4
              replace hx126_5 := hC_ HB hx126_5
              replace p126 := eq_true p126
              replace q126 := eq_true q126
              go_wp2_with (first | (go_at_call 112; (with_reducible refine (block_May_1.calls k1 ((q24 l0 x8_1).f0) ((q24 l0 x8_1).f1) ((q24 l0 x8_1).f2) ((q24 l0 x8_1).f3) ((q24 l0 x8_1).f4) ((q24 l0 x8_1).f5) true _ A6.out).mono ?_); rintro e w8 ⟨rfl, hb⟩; replace HB := As_.mk (bT_ (bl_ HB) hb)))
              go_ret
              exact ⟨by first | rfl | (simp [eN_, eS_] <;> rfl) | (simp [*, eN_, eS_] <;> rfl), bl_ HB⟩
            · replace c7 := eF_ c7
              subst c7
              rw [if_neg Bool.false_ne_true] at H
              have H' := As_.mk H
              clear H
              have p126 : 0 ≤ (x8_1 : Int) := oD_
              have q126 : x8_1 < (l0.length : Int) := oD_
              obtain ⟨ad126, e126, hx126_0, hx126_1, hx126_2, hx126_3, hx126_4, hx126_5⟩ := at_T24 HR0.out x8_1 p126 q126
              cases e126
              replace hx126_0 := hC_ HB hx126_0
              replace hx126_1 := hC_ HB hx126_1
              replace hx126_2 := hC_ HB hx126_2
              replace hx126_3 := hC_ HB hx126_3
              replace hx126_4 := hC_ HB hx126_4
              replace hx126_5 := hC_ HB hx126_5
              replace p126 := eq_true p126
              replace q126 := eq_true q126
              go_wp2_with (first | (go_at_call 112; (with_reducible refine (block_May_1.calls k1 ((q24 l0 x8_1).f0) ((q24 l0 x8_1).f1) ((q24 l0 x8_1).f2) ((q24 l0 x8_1).f3) ((q24 l0 x8_1).f4) ((q24 l0 x8_1).f5) false _ A6.out).mono ?_); rintro e w9 ⟨rfl, hb⟩; replace HB := As_.mk (bT_ (bl_ HB) hb)))
              go_roundg k1
              case measure => have := HK1.out; omega
              case rel => exact ⟨(wrap64 (x8_1 + 1)), eQ_, H', ⟨by have := HK1.out; omega⟩, ⟨bl_ HB⟩⟩
          · rw [if_neg c5] at H
            exact absurd H (by simp)
        · rw [if_neg c4] at H
          exact absurd H (by simp)
      · rw [if_neg c3] at H
        have c3b0 := decide_eq_false c3
        clear c3
        obtain rfl := oI_ H
        go_wp2
        go_ret
        exact ⟨by first | rfl | (simp [eN_, eS_] <;> rfl) | (simp [*, eN_, eS_] <;> rfl), bl_ HB⟩
set_option maxHeartbeats 8000000 in
set_option maxRecDepth 100000 in
theorem aI112_88112.calls (k : Nat) (A0 : Option Addr) (c0 : Nat) (l0 : List (S24))  (r : Bool) (w : World) (hr0 : Kd.C k24 w A0 l0.length l0) (hc0 : l0.length ≤ c0) (h : aI89_88089.f k l0 = some r) :
    Calls Try.prog 88 #[.slice A0 l0.length c0, .func (.func 112) #[] #[]] w fun e w' => e = .returned (.bool r) ∧ Below w.heap.size w w' := by
  have HR0 := As_.mk hr0
  have HC0 := As_.mk hc0
  clear hr0 hc0
  have HB := As_.mk (Below.refl w.heap.size w)
  have H : ((aI89_114089.f k l0).bind fun t128 => (some (decide (t128 ≥ 0)))) = some r := h
  clear h
  replace H := oB_ H
  obtain ⟨t128, A30, H⟩ := H
  have A3 := As_.mk A30
  clear A30
  obtain rfl := oI_ H
  go_enter Try.func88, Try.ntmps88
  go_wp2_with (first | ((with_reducible refine gC_ (f := 114) rfl ?_); refine gL_ (some 7) Try.func114 #[.slice A0 l0.length c0, .func (.func 112) #[] #[]] rfl ?_; (with_reducible refine (aI112_114112.calls k _ _ l0  t128 _ ?side1 ?side2 A3.out).mono ?_); (case side1 => exact rC_ HR0.out); (case side2 => exact HC0.out); rintro e w4 ⟨rfl, hb⟩; refine ⟨_, rfl, ?_⟩; replace HB := As_.mk (bT_ (bl_ HB) hb)))
  go_ret
  exact ⟨by first | rfl | (simp [eN_, eS_] <;> rfl) | (simp [*, eN_, eS_] <;> rfl), bl_ HB⟩
end Go.Proofs.Ytibfkkjkahpobaa.PDag
end
section
namespace Go.Proofs.Ytibfkkjkahpobaa.PDag
attribute [local go_sem] Oper.semAt_some
attribute [local go_sem high] eqA24
def zeroI (x : S24) : Bool := x.f0 == 0 && (x.f1 == 0 && (x.f2 == 0 && (x.f3 == 0 && (x.f4 == 0 && x.f5.toList.isEmpty))))
def mayBlk (l : List S24) (x : S24) : Bool := allPlain l && (if zeroI x = true then decide (l.length ≤ 200) else okI x && (endsOp x.f0 && decide (l.length + 1 ≤ 200)))
theorem contains_eq (l : List S24) (hl : l.length ≤ 1000000000) : aI89_88089.f (62 + l.length) l = some (!allPlain l) := by
  unfold aI89_88089.f aI89_114089.f
  obtain ⟨r, h1, h2⟩ := idx_loop l hl l.length (62 + l.length) 0 (by omega) (by omega)
  rw [show ((0 : Nat) : Int) = 0 from rfl] at h1
  rw [h1]
  simp only [Option.bind_some, h2, List.drop_zero]
  rfl
def totB (l : List S24) (x : S24) : Int := if zeroI x = true then l.length else l.length + 1
set_option maxRecDepth 100000 in
set_option maxHeartbeats 8000000 in
theorem block_May.calls0 (g : Nat) (A0 : Option Addr) (c0 : Nat) (Al : Option Addr) (cl cp : Nat) (l : List S24) (x : S24) (w : World) (hg : w.heap[g]? = some (.cells #[.slice A0 0 c0, .slice Al l.length cl, .int .i64 x.f0, .int .i64 x.f1, .int .i64 x.f2, .int .i64 x.f3, .int .i64 x.f4, .string x.f5] 73 (0, 0)))
    (hl : Kd.C k24 w Al l.length l) (hcl : l.length ≤ cl) (hmx : l.length ≤ 1000000000) :
    Calls Try.prog 83 #[.slice (some ⟨g, 0, none⟩) 1 cp] w fun e w' => e = .returned (.bool (mayBlk l x)) ∧ Below w.heap.size w w' := by
  have hu73 := Try.underlying73
  have hu24 := Try.underlying24
  have hmm := @run_makeMap_plain Try.prog
  have HG := As_.mk hg
  have HL := As_.mk hl
  clear hg hl
  go_enter Try.func83, Try.ntmps83
  go_wp2
  have HM := As_.mk (blk_new w (.map #[] 0))
  have HB := As_.mk (bA_ (Below.refl w.heap.size w) (.map #[] 0))
  generalize hmp : w.heap.size = mp at HM HB ⊢
  go_loopw [4, 12] (fun v i wr => ∃ j : Nat, j ≤ 1 ∧ i = .int .i64 j ∧ v = .int .i64 (if j = 0 then 0 else totB l x) ∧ As_ (j = 1 → mayBlk l x = decide (totB l x ≤ 200)) ∧ As_ (wr.heap[mp]? = some (.map #[] 0)) ∧ As_ (Below mp w wr)) (fun _ i _ => 1 - (intOf i).toNat)
  case atStart => exact ⟨0, by omega, rfl, rfl, ⟨fun h => by cases h⟩, ⟨HM.out⟩, ⟨HB.out⟩⟩
  case round =>
    clear HM HB
    obtain ⟨j, hj, rfl, rfl, HJ, HM, HB⟩ := hrel
    by_cases hlt : j = 0
    · subst hlt
      have HG1 := As_.mk ((HB.out.block g (by rw [← hmp]; exact blk_lt HG.out)).trans HG.out)
      have hx0 : wr.cell? ⟨g, 0, none⟩ = some (.slice A0 0 c0) := (bC_ HG1.out 0).trans rfl
      have hx1 : wr.cell? ⟨g, 1, none⟩ = some (.slice Al l.length cl) := (bC_ HG1.out 1).trans rfl
      have hx2 : wr.cell? ⟨g, 2, none⟩ = some (.int .i64 x.f0) := (bC_ HG1.out 2).trans rfl
      have hx3 : wr.cell? ⟨g, 3, none⟩ = some (.int .i64 x.f1) := (bC_ HG1.out 3).trans rfl
      have hx4 : wr.cell? ⟨g, 4, none⟩ = some (.int .i64 x.f2) := (bC_ HG1.out 4).trans rfl
      have hx5 : wr.cell? ⟨g, 5, none⟩ = some (.int .i64 x.f3) := (bC_ HG1.out 5).trans rfl
      have hx6 : wr.cell? ⟨g, 6, none⟩ = some (.int .i64 x.f4) := (bC_ HG1.out 6).trans rfl
      have hx7 : wr.cell? ⟨g, 7, none⟩ = some (.string x.f5) := (bC_ HG1.out 7).trans rfl
      go_wp2
      have HX := As_.mk (blk_new wr (.cells #[.slice A0 0 c0, .slice Al l.length cl, .int .i64 x.f0, .int .i64 x.f1, .int .i64 x.f2, .int .i64 x.f3, .int .i64 x.f4, .string x.f5] 73 (0, 0)))
      have hb1 := bA_ (Below.refl wr.heap.size wr) (.cells #[.slice A0 0 c0, .slice Al l.length cl, .int .i64 x.f0, .int .i64 x.f1, .int .i64 x.f2, .int .i64 x.f3, .int .i64 x.f4, .string x.f5] 73 (0, 0))
      have hmle : mp ≤ wr.heap.size := by rw [← hmp]; exact HB.out.size
      have HM1 := As_.mk (kB_ HM.out hb1)
      have HB1 := As_.mk (HB.out.trans (hb1.mono hmle))
      clear hb1 HM HB HG1 hx0 hx1 hx2 hx3 hx4 hx5 hx6 hx7
      generalize wr.heap.size = gx at HX hmle ⊢
      generalize wr.alloc (.cells #[.slice A0 0 c0, .slice Al l.length cl, .int .i64 x.f0, .int .i64 x.f1, .int .i64 x.f2, .int .i64 x.f3, .int .i64 x.f4, .string x.f5] 73 (0, 0)) = W1 at HX HM1 HB1 ⊢
      refine wp_loop_once ?_
      have x1 : W1.cell? ⟨gx, 1, none⟩ = some (.slice Al l.length cl) := (bC_ HX.out 1).trans rfl
      have HC := As_.mk (aI112_88112.calls (62 + l.length) Al cl l _ W1 (Kd.C_below HL.out (by rw [hmp]; exact HB1.out)) hcl (contains_eq l hmx))
      cases hp : allPlain l with
      | false =>
        rw [hp] at HC
        go_wp2_with (go_at_call 88; refine HC.out.mono ?_; rintro e w' ⟨rfl, hb⟩; have HB2 := As_.mk hb; clear hb)
        go_ret
        exact ⟨by simp [mayBlk, hp], by rw [hmp]; exact HB1.out.trans (HB2.out.mono (Nat.le_trans hmle (Nat.le_of_lt (blk_lt HX.out))))⟩
      | true =>
        rw [hp] at HC
        have HP := As_.mk hp
        clear hp
        have hwl : wrap64 (0 + (l.length : Int)) = (l.length : Int) := by unfold wrap64; omega
        cases hz : zeroI x with
        | true =>
          have z1 : (x.f0 == 0 && (x.f1 == 0 && (x.f2 == 0 && (x.f3 == 0 && (x.f4 == 0 && x.f5.toList.isEmpty))))) = true := hz
          go_wp2_with (go_at_call 88; refine HC.out.mono ?_; rintro e w' ⟨rfl, hb⟩; have HX2 := As_.mk (kB_ HX.out hb); have HM2 := As_.mk (kB_ HM1.out hb); have HB2 := As_.mk (HB1.out.trans (hb.mono (Nat.le_trans hmle (Nat.le_of_lt (blk_lt HX.out))))); clear hb x1; have y1 : w'.cell? ⟨gx, 1, none⟩ = some (.slice Al l.length cl) := (bC_ HX2.out 1).trans rfl; have y2 : w'.cell? ⟨gx, 2, none⟩ = some (.int .i64 x.f0) := (bC_ HX2.out 2).trans rfl; have y3 : w'.cell? ⟨gx, 3, none⟩ = some (.int .i64 x.f1) := (bC_ HX2.out 3).trans rfl; have y4 : w'.cell? ⟨gx, 4, none⟩ = some (.int .i64 x.f2) := (bC_ HX2.out 4).trans rfl; have y5 : w'.cell? ⟨gx, 5, none⟩ = some (.int .i64 x.f3) := (bC_ HX2.out 5).trans rfl; have y6 : w'.cell? ⟨gx, 6, none⟩ = some (.int .i64 x.f4) := (bC_ HX2.out 6).trans rfl; have y7 : w'.cell? ⟨gx, 7, none⟩ = some (.string x.f5) := (bC_ HX2.out 7).trans rfl)
          refine ⟨⟨1, Nat.le_refl _, by first | rfl | (congr 1), by simp [totB, hz], ⟨fun _ => by simp [mayBlk, totB, hz, HP.out]; omega⟩, ⟨HM2.out⟩, ⟨HB2.out⟩⟩, by simp [intOf]⟩
        | false =>
          have z1 : (x.f0 == 0 && (x.f1 == 0 && (x.f2 == 0 && (x.f3 == 0 && (x.f4 == 0 && x.f5.toList.isEmpty))))) = false := hz
          have hw2 : wrap64 ((l.length : Int) + 1) = (l.length : Int) + 1 := by unfold wrap64; omega
          have HI := As_.mk (fun W => isa_IsIns.calls 50 x.f0 x.f1 x.f2 x.f3 x.f4 x.f5 _ W (isa_ins_eq (Nat.le_refl _) x.f0 x.f1 x.f2 x.f3 x.f4 x.f5))
          cases hI : okI x with
          | false =>
            have hI' : insOk x.f0 x.f1 x.f2 x.f3 x.f4 x.f5 = false := hI
            rw [hI'] at HI
            clear hI'
            go_wp2_with (first | (go_at_call 88; refine HC.out.mono ?_; rintro e w' ⟨rfl, hb⟩; have HX2 := As_.mk (kB_ HX.out hb); have HM2 := As_.mk (kB_ HM1.out hb); have HB2 := As_.mk (HB1.out.trans (hb.mono (Nat.le_trans hmle (Nat.le_of_lt (blk_lt HX.out))))); clear hb x1; have y1 : w'.cell? ⟨gx, 1, none⟩ = some (.slice Al l.length cl) := (bC_ HX2.out 1).trans rfl; have y2 : w'.cell? ⟨gx, 2, none⟩ = some (.int .i64 x.f0) := (bC_ HX2.out 2).trans rfl; have y3 : w'.cell? ⟨gx, 3, none⟩ = some (.int .i64 x.f1) := (bC_ HX2.out 3).trans rfl; have y4 : w'.cell? ⟨gx, 4, none⟩ = some (.int .i64 x.f2) := (bC_ HX2.out 4).trans rfl; have y5 : w'.cell? ⟨gx, 5, none⟩ = some (.int .i64 x.f3) := (bC_ HX2.out 5).trans rfl; have y6 : w'.cell? ⟨gx, 6, none⟩ = some (.int .i64 x.f4) := (bC_ HX2.out 6).trans rfl; have y7 : w'.cell? ⟨gx, 7, none⟩ = some (.string x.f5) := (bC_ HX2.out 7).trans rfl) | (go_at_call 63; refine (HI.out _).mono ?_; rintro e w3 ⟨rfl, hb⟩; have HB3 := As_.mk hb; clear hb))
            go_ret
            exact ⟨by simp [mayBlk, HP.out, hz, hI], by rw [hmp]; exact HB2.out.trans (HB3.out.mono (Nat.le_trans hmle (Nat.le_of_lt (blk_lt HX2.out))))⟩
          | true =>
            have hI' : insOk x.f0 x.f1 x.f2 x.f3 x.f4 x.f5 = true := hI
            rw [hI'] at HI
            clear hI'
            go_wp2_with (first | (go_at_call 88; refine HC.out.mono ?_; rintro e w' ⟨rfl, hb⟩; have HX2 := As_.mk (kB_ HX.out hb); have HM2 := As_.mk (kB_ HM1.out hb); have HB2 := As_.mk (HB1.out.trans (hb.mono (Nat.le_trans hmle (Nat.le_of_lt (blk_lt HX.out))))); clear hb x1; have y1 : w'.cell? ⟨gx, 1, none⟩ = some (.slice Al l.length cl) := (bC_ HX2.out 1).trans rfl; have y2 : w'.cell? ⟨gx, 2, none⟩ = some (.int .i64 x.f0) := (bC_ HX2.out 2).trans rfl; have y3 : w'.cell? ⟨gx, 3, none⟩ = some (.int .i64 x.f1) := (bC_ HX2.out 3).trans rfl; have y4 : w'.cell? ⟨gx, 4, none⟩ = some (.int .i64 x.f2) := (bC_ HX2.out 4).trans rfl; have y5 : w'.cell? ⟨gx, 5, none⟩ = some (.int .i64 x.f3) := (bC_ HX2.out 5).trans rfl; have y6 : w'.cell? ⟨gx, 6, none⟩ = some (.int .i64 x.f4) := (bC_ HX2.out 6).trans rfl; have y7 : w'.cell? ⟨gx, 7, none⟩ = some (.string x.f5) := (bC_ HX2.out 7).trans rfl) | (go_at_call 63; refine (HI.out _).mono ?_; rintro e w3 ⟨rfl, hb⟩; have HM3 := As_.mk (kB_ HM2.out hb); have HX3 := As_.mk (kB_ HX2.out hb); have y22 : w3.cell? ⟨gx, 2, none⟩ = some (.int .i64 x.f0) := (bC_ HX3.out 2).trans rfl; have HB3 := As_.mk (HB2.out.trans (hb.mono (Nat.le_trans hmle (Nat.le_of_lt (blk_lt HX2.out))))); clear hb) | (go_at_call 64; refine (isa_Ends.calls x.f0 _ _ (ends_eq x.f0)).mono ?_; rintro e w4 ⟨rfl, ⟨nd, rfl⟩⟩; have HB4 := As_.mk (bN_ HB3.out nd); cases hE : endsOp x.f0))
            · go_ret
              exact ⟨by simp [mayBlk, HP.out, hz, hI, hE], by rw [hmp]; exact HB4.out⟩
            · refine ⟨⟨1, Nat.le_refl _, by first | rfl | (congr 1), by simp [totB, hz], ⟨fun _ => by simp [mayBlk, totB, hz, HP.out, hI, hE]; omega⟩, ⟨HM3.out⟩, ⟨HB4.out⟩⟩, by simp [intOf]⟩
    · obtain rfl : j = 1 := by omega
      have hJ := HJ.out rfl
      have hm0 := HM.out
      rw [if_neg (by decide)]
      have ht0 : 0 ≤ totB l x := by unfold totB; split <;> omega
      have q1 : (((1 : Nat) : Int) < 1) = False := eq_false (by omega)
      by_cases hT : totB l x ≤ 200
      · have c1 : (totB l x ≤ 200) = True := eq_true hT
        have c2 : decide (totB l x ≤ 200) = true := decide_eq_true hT
        clear hT
        rw [c2] at hJ
        have HJ2 := As_.mk hJ
        clear hJ HJ
        have hu127 : Try.prog.underlying 127 = some (.map (Try.prog.mapKeyOf 127) (Try.prog.mapElemOf 127)) := by kernel_rfl
        have hlm : ∀ ty, (Builtin.len_ #[127] ty #[.map (some mp)]).run Try.prog wr = .ok (.int .i64 0) wr := fun ty => by
          have h_ := run_len_map (P := Try.prog) wr 127 ty mp #[] 0 hu127 hm0
          exact h_
        go_wp2
        go_ret
        exact ⟨by rw [HJ2.out]; rfl, by rw [hmp]; exact HB.out⟩
      · have c1 : (totB l x ≤ 200) = False := eq_false hT
        have c2 : decide (totB l x ≤ 200) = false := decide_eq_false hT
        clear hT
        rw [c2] at hJ
        have HJ2 := As_.mk hJ
        clear hJ HJ
        go_wp2
        go_ret
        exact ⟨by rw [HJ2.out]; rfl, by rw [hmp]; exact HB.out⟩
end Go.Proofs.Ytibfkkjkahpobaa.PDag
end
section
namespace Go.Proofs.Ytibfkkjkahpobaa.PDag
attribute [local go_sem] Oper.semAt_some
attribute [local go_sem high] eqA24
def r13_Block.f (k : Nat) (lb : List ByteArray) (l : List S24) (a2 a3 a4 a5 a6 : Int) (a7 : ByteArray) : Option Bool :=
  if lb.isEmpty = true ∧ l.length ≤ 1000000000 then some (mayBlk l ⟨a2, a3, a4, a5, a6, a7⟩) else none
theorem blk_no {l : List S24} (x : S24) (h : mayL l = false) : mayBlk l x = false := by
  unfold mayL at h
  unfold mayBlk
  cases hp : allPlain l with
  | false => rfl
  | true =>
    rw [hp, Bool.and_true] at h
    have h2 : ¬ l.length ≤ 200 := of_decide_eq_false h
    rw [Bool.true_and]
    split
    · exact h
    · rw [decide_eq_false (show ¬ l.length + 1 ≤ 200 by omega)]; simp
set_option maxRecDepth 100000 in
set_option maxHeartbeats 8000000 in
theorem r13_Block.calls (k : Nat) (A0_0 : Option Addr) (c0_0 : Nat) (l0_0 : List ByteArray) (A0_1 : Option Addr) (c0_1 : Nat) (l0_1 : List S24) (a0_2 a0_3 a0_4 a0_5 a0_6 : Int) (a0_7 : ByteArray) (r : Bool) (w : World)
    (hr0_0 : Kd.C Kd.string w A0_0 l0_0.length l0_0) (hc0_0 : l0_0.length ≤ c0_0) (hr0_1 : Kd.C k24 w A0_1 l0_1.length l0_1) (hc0_1 : l0_1.length ≤ c0_1) (h : r13_Block.f k l0_0 l0_1 a0_2 a0_3 a0_4 a0_5 a0_6 a0_7 = some r) :
    Calls Try.prog 75 #[.agg #[.slice A0_0 l0_0.length c0_0, .slice A0_1 l0_1.length c0_1, .int .i64 a0_2, .int .i64 a0_3, .int .i64 a0_4, .int .i64 a0_5, .int .i64 a0_6, .string a0_7]] w fun e w' => e = .returned (.bool r) ∧ Below w.heap.size w w' := by
  have hu73 := Try.underlying73
  have hu24 := Try.underlying24
  unfold r13_Block.f at h
  split at h
  · rename_i hg
    obtain ⟨hlb, hlen⟩ := hg
    have hl0 : l0_0 = [] := by simpa using hlb
    subst hl0
    replace h := Option.some.inj h
    have HL := As_.mk hr0_1
    generalize hx : (⟨a0_2, a0_3, a0_4, a0_5, a0_6, a0_7⟩ : S24) = x at h
    have e2 : a0_2 = x.f0 := by rw [← hx]
    have e3 : a0_3 = x.f1 := by rw [← hx]
    have e4 : a0_4 = x.f2 := by rw [← hx]
    have e5 : a0_5 = x.f3 := by rw [← hx]
    have e6 : a0_6 = x.f4 := by rw [← hx]
    have e7 : a0_7 = x.f5 := by rw [← hx]
    clear hx
    subst e2 e3 e4 e5 e6 e7
    have HS := As_.mk (fun W hW => r13_Straight.calls 700 A0_1 c0_1 l0_1 _ W (Kd.C_below HL.out hW) hc0_1 (straight_eq l0_1 hlen (Nat.le_refl _)))
    have HI := As_.mk (fun W => r3_Ins.calls 50 x.f0 x.f1 x.f2 x.f3 x.f4 x.f5 _ W (ref_ins_eq (Nat.le_refl _) x.f0 x.f1 x.f2 x.f3 x.f4 x.f5))
    clear hr0_0 hr0_1 hlb
    rw [show ([] : List ByteArray).length = 0 from rfl]
    cases hm : mayL l0_1 with
    | false =>
      rw [hm] at HS
      have hr := blk_no x hm
      rw [hr] at h
      subst h
      clear hm hr
      go_enter Try.func75, Try.ntmps75
      go_wp2_with (first | ((with_reducible refine gate_dst (N := 1) rfl ?_); refine bX_ (N := 1) (cs := #[.slice A0_0 0 c0_0, .slice A0_1 l0_1.length c0_1, .int .i64 x.f0, .int .i64 x.f1, .int .i64 x.f2, .int .i64 x.f3, .int .i64 x.f4, .string x.f5]) (t := 73) ?_; intro gb hgb w1 hbox hb; have x0 : w1.cell? ⟨gb, 0, none⟩ = some (.slice A0_0 0 c0_0) := (bC_ hbox 0).trans rfl; have x1 : w1.cell? ⟨gb, 1, none⟩ = some (.slice A0_1 l0_1.length c0_1) := (bC_ hbox 1).trans rfl; have BX := As_.mk hbox; have HB := As_.mk hb; clear hbox hb hgb))
      refine wp_loop_once ?_
      go_wp2_with (go_at_call 32; refine (HS.out _ HB.out).mono ?_; rintro e w3 ⟨rfl, hb⟩; have HB2 := As_.mk (HB.out.trans (hb.mono HB.out.size)); have BX2 := As_.mk (kB_ BX.out hb); clear hb x0 x1; have y0 : w3.cell? ⟨gb, 0, none⟩ = some (.slice A0_0 0 c0_0) := (bC_ BX2.out 0).trans rfl; have y1 : w3.cell? ⟨gb, 1, none⟩ = some (.slice A0_1 l0_1.length c0_1) := (bC_ BX2.out 1).trans rfl; have y2 : w3.cell? ⟨gb, 2, none⟩ = some (.int .i64 x.f0) := (bC_ BX2.out 2).trans rfl; have y3 : w3.cell? ⟨gb, 3, none⟩ = some (.int .i64 x.f1) := (bC_ BX2.out 3).trans rfl; have y4 : w3.cell? ⟨gb, 4, none⟩ = some (.int .i64 x.f2) := (bC_ BX2.out 4).trans rfl; have y5 : w3.cell? ⟨gb, 5, none⟩ = some (.int .i64 x.f3) := (bC_ BX2.out 5).trans rfl; have y6 : w3.cell? ⟨gb, 6, none⟩ = some (.int .i64 x.f4) := (bC_ BX2.out 6).trans rfl; have y7 : w3.cell? ⟨gb, 7, none⟩ = some (.string x.f5) := (bC_ BX2.out 7).trans rfl)
      go_ret
      exact ⟨rfl, HB2.out⟩
    | true =>
      rw [hm] at HS
      have hM := mayL_parts hm
      have hap : allPlain l0_1 = true := List.all_eq_true.2 hM.2
      have h200 : l0_1.length ≤ 200 := hM.1
      have hw2 : wrap64 ((l0_1.length : Int) + 1) = (l0_1.length : Int) + 1 := by unfold wrap64; omega
      have c200 : ((l0_1.length : Int) ≤ 200) = True := eq_true (by omega)
      unfold mayBlk at h
      rw [hap, Bool.true_and] at h
      have HH := As_.mk h
      clear h hm hM hap
      cases hz : zeroI x with
      | true =>
        have z1 : (x.f0 == 0 && (x.f1 == 0 && (x.f2 == 0 && (x.f3 == 0 && (x.f4 == 0 && x.f5.toList.isEmpty))))) = true := hz
        have z0 : (x.f0 != 0) = false := by unfold zeroI at hz; simp only [Bool.and_eq_true] at hz; simp only [bne, hz.1]; rfl
        go_enter Try.func75, Try.ntmps75
        go_wp2_with (first | ((with_reducible refine gate_dst (N := 1) rfl ?_); refine bX_ (N := 1) (cs := #[.slice A0_0 0 c0_0, .slice A0_1 l0_1.length c0_1, .int .i64 x.f0, .int .i64 x.f1, .int .i64 x.f2, .int .i64 x.f3, .int .i64 x.f4, .string x.f5]) (t := 73) ?_; intro gb hgb w1 hbox hb; have x0 : w1.cell? ⟨gb, 0, none⟩ = some (.slice A0_0 0 c0_0) := (bC_ hbox 0).trans rfl; have x1 : w1.cell? ⟨gb, 1, none⟩ = some (.slice A0_1 l0_1.length c0_1) := (bC_ hbox 1).trans rfl; have BX := As_.mk hbox; have HB := As_.mk hb; clear hbox hb hgb))
        refine wp_loop_once ?_
        go_wp2_with (go_at_call 32; refine (HS.out _ HB.out).mono ?_; rintro e w3 ⟨rfl, hb⟩; have HB2 := As_.mk (HB.out.trans (hb.mono HB.out.size)); have BX2 := As_.mk (kB_ BX.out hb); clear hb x0 x1; have y0 : w3.cell? ⟨gb, 0, none⟩ = some (.slice A0_0 0 c0_0) := (bC_ BX2.out 0).trans rfl; have y1 : w3.cell? ⟨gb, 1, none⟩ = some (.slice A0_1 l0_1.length c0_1) := (bC_ BX2.out 1).trans rfl; have y2 : w3.cell? ⟨gb, 2, none⟩ = some (.int .i64 x.f0) := (bC_ BX2.out 2).trans rfl; have y3 : w3.cell? ⟨gb, 3, none⟩ = some (.int .i64 x.f1) := (bC_ BX2.out 3).trans rfl; have y4 : w3.cell? ⟨gb, 4, none⟩ = some (.int .i64 x.f2) := (bC_ BX2.out 4).trans rfl; have y5 : w3.cell? ⟨gb, 5, none⟩ = some (.int .i64 x.f3) := (bC_ BX2.out 5).trans rfl; have y6 : w3.cell? ⟨gb, 6, none⟩ = some (.int .i64 x.f4) := (bC_ BX2.out 6).trans rfl; have y7 : w3.cell? ⟨gb, 7, none⟩ = some (.string x.f5) := (bC_ BX2.out 7).trans rfl)
        go_ret
        exact ⟨by rw [← HH.out, if_pos hz, decide_eq_true h200]; rfl, HB2.out⟩
      | false =>
        have z1 : (x.f0 == 0 && (x.f1 == 0 && (x.f2 == 0 && (x.f3 == 0 && (x.f4 == 0 && x.f5.toList.isEmpty))))) = false := hz
        by_cases h0 : x.f0 = 0
        · have z0 : (x.f0 != 0) = false := by rw [h0]; rfl
          have hE : endsOp x.f0 = false := by rw [h0]; rfl
          cases hI : okI x with
          | false =>
            have hI' : insOk x.f0 x.f1 x.f2 x.f3 x.f4 x.f5 = false := hI
            rw [hI'] at HI
            clear hI' h0
            go_enter Try.func75, Try.ntmps75
            go_wp2_with (first | ((with_reducible refine gate_dst (N := 1) rfl ?_); refine bX_ (N := 1) (cs := #[.slice A0_0 0 c0_0, .slice A0_1 l0_1.length c0_1, .int .i64 x.f0, .int .i64 x.f1, .int .i64 x.f2, .int .i64 x.f3, .int .i64 x.f4, .string x.f5]) (t := 73) ?_; intro gb hgb w1 hbox hb; have x0 : w1.cell? ⟨gb, 0, none⟩ = some (.slice A0_0 0 c0_0) := (bC_ hbox 0).trans rfl; have x1 : w1.cell? ⟨gb, 1, none⟩ = some (.slice A0_1 l0_1.length c0_1) := (bC_ hbox 1).trans rfl; have BX := As_.mk hbox; have HB := As_.mk hb; clear hbox hb hgb))
            refine wp_loop_once ?_
            go_wp2_with (first | (go_at_call 32; refine (HS.out _ HB.out).mono ?_; rintro e w3 ⟨rfl, hb⟩; have HB2 := As_.mk (HB.out.trans (hb.mono HB.out.size)); have BX2 := As_.mk (kB_ BX.out hb); clear hb x0 x1; have y0 : w3.cell? ⟨gb, 0, none⟩ = some (.slice A0_0 0 c0_0) := (bC_ BX2.out 0).trans rfl; have y1 : w3.cell? ⟨gb, 1, none⟩ = some (.slice A0_1 l0_1.length c0_1) := (bC_ BX2.out 1).trans rfl; have y2 : w3.cell? ⟨gb, 2, none⟩ = some (.int .i64 x.f0) := (bC_ BX2.out 2).trans rfl; have y3 : w3.cell? ⟨gb, 3, none⟩ = some (.int .i64 x.f1) := (bC_ BX2.out 3).trans rfl; have y4 : w3.cell? ⟨gb, 4, none⟩ = some (.int .i64 x.f2) := (bC_ BX2.out 4).trans rfl; have y5 : w3.cell? ⟨gb, 5, none⟩ = some (.int .i64 x.f3) := (bC_ BX2.out 5).trans rfl; have y6 : w3.cell? ⟨gb, 6, none⟩ = some (.int .i64 x.f4) := (bC_ BX2.out 6).trans rfl; have y7 : w3.cell? ⟨gb, 7, none⟩ = some (.string x.f5) := (bC_ BX2.out 7).trans rfl) | (go_at_call 39; refine (HI.out _).mono ?_; rintro e w4 ⟨rfl, hb⟩; have HB3 := As_.mk (HB2.out.trans (hb.mono HB2.out.size)); have BX3 := As_.mk (kB_ BX2.out hb); clear hb; have z2 : w4.cell? ⟨gb, 2, none⟩ = some (.int .i64 x.f0) := (bC_ BX3.out 2).trans rfl))
            go_ret
            exact ⟨by rw [← HH.out, if_neg (by rw [hz]; decide), hI]; rfl, HB3.out⟩
          | true =>
            have hI' : insOk x.f0 x.f1 x.f2 x.f3 x.f4 x.f5 = true := hI
            rw [hI'] at HI
            clear hI' h0
            go_enter Try.func75, Try.ntmps75
            go_wp2_with (first | ((with_reducible refine gate_dst (N := 1) rfl ?_); refine bX_ (N := 1) (cs := #[.slice A0_0 0 c0_0, .slice A0_1 l0_1.length c0_1, .int .i64 x.f0, .int .i64 x.f1, .int .i64 x.f2, .int .i64 x.f3, .int .i64 x.f4, .string x.f5]) (t := 73) ?_; intro gb hgb w1 hbox hb; have x0 : w1.cell? ⟨gb, 0, none⟩ = some (.slice A0_0 0 c0_0) := (bC_ hbox 0).trans rfl; have x1 : w1.cell? ⟨gb, 1, none⟩ = some (.slice A0_1 l0_1.length c0_1) := (bC_ hbox 1).trans rfl; have BX := As_.mk hbox; have HB := As_.mk hb; clear hbox hb hgb))
            refine wp_loop_once ?_
            go_wp2_with (first | (go_at_call 32; refine (HS.out _ HB.out).mono ?_; rintro e w3 ⟨rfl, hb⟩; have HB2 := As_.mk (HB.out.trans (hb.mono HB.out.size)); have BX2 := As_.mk (kB_ BX.out hb); clear hb x0 x1; have y0 : w3.cell? ⟨gb, 0, none⟩ = some (.slice A0_0 0 c0_0) := (bC_ BX2.out 0).trans rfl; have y1 : w3.cell? ⟨gb, 1, none⟩ = some (.slice A0_1 l0_1.length c0_1) := (bC_ BX2.out 1).trans rfl; have y2 : w3.cell? ⟨gb, 2, none⟩ = some (.int .i64 x.f0) := (bC_ BX2.out 2).trans rfl; have y3 : w3.cell? ⟨gb, 3, none⟩ = some (.int .i64 x.f1) := (bC_ BX2.out 3).trans rfl; have y4 : w3.cell? ⟨gb, 4, none⟩ = some (.int .i64 x.f2) := (bC_ BX2.out 4).trans rfl; have y5 : w3.cell? ⟨gb, 5, none⟩ = some (.int .i64 x.f3) := (bC_ BX2.out 5).trans rfl; have y6 : w3.cell? ⟨gb, 6, none⟩ = some (.int .i64 x.f4) := (bC_ BX2.out 6).trans rfl; have y7 : w3.cell? ⟨gb, 7, none⟩ = some (.string x.f5) := (bC_ BX2.out 7).trans rfl) | (go_at_call 39; refine (HI.out _).mono ?_; rintro e w4 ⟨rfl, hb⟩; have HB3 := As_.mk (HB2.out.trans (hb.mono HB2.out.size)); have BX3 := As_.mk (kB_ BX2.out hb); clear hb; have z2 : w4.cell? ⟨gb, 2, none⟩ = some (.int .i64 x.f0) := (bC_ BX3.out 2).trans rfl) | (go_at_call 40; refine (r3_Ends.calls x.f0 _ _ (rends_eq x.f0)).mono ?_; rintro e w5 ⟨rfl, ⟨nd, rfl⟩⟩; have HB4 := As_.mk (bN_ HB3.out nd); (try rw [hE])))
            go_ret
            exact ⟨by rw [← HH.out, if_neg (by rw [hz]; decide), hE]; simp [hI], HB4.out⟩
        · have z0 : (x.f0 != 0) = true := by simpa using h0
          by_cases h201 : l0_1.length + 1 ≤ 200
          · have c201 : ((l0_1.length : Int) + 1 ≤ 200) = True := eq_true (by omega)
            have d201 := decide_eq_true h201
            cases hI : okI x with
            | false =>
              have hI' : insOk x.f0 x.f1 x.f2 x.f3 x.f4 x.f5 = false := hI
              rw [hI'] at HI
              clear hI' h0 h201
              go_enter Try.func75, Try.ntmps75
              go_wp2_with (first | ((with_reducible refine gate_dst (N := 1) rfl ?_); refine bX_ (N := 1) (cs := #[.slice A0_0 0 c0_0, .slice A0_1 l0_1.length c0_1, .int .i64 x.f0, .int .i64 x.f1, .int .i64 x.f2, .int .i64 x.f3, .int .i64 x.f4, .string x.f5]) (t := 73) ?_; intro gb hgb w1 hbox hb; have x0 : w1.cell? ⟨gb, 0, none⟩ = some (.slice A0_0 0 c0_0) := (bC_ hbox 0).trans rfl; have x1 : w1.cell? ⟨gb, 1, none⟩ = some (.slice A0_1 l0_1.length c0_1) := (bC_ hbox 1).trans rfl; have BX := As_.mk hbox; have HB := As_.mk hb; clear hbox hb hgb))
              refine wp_loop_once ?_
              go_wp2_with (first | (go_at_call 32; refine (HS.out _ HB.out).mono ?_; rintro e w3 ⟨rfl, hb⟩; have HB2 := As_.mk (HB.out.trans (hb.mono HB.out.size)); have BX2 := As_.mk (kB_ BX.out hb); clear hb x0 x1; have y0 : w3.cell? ⟨gb, 0, none⟩ = some (.slice A0_0 0 c0_0) := (bC_ BX2.out 0).trans rfl; have y1 : w3.cell? ⟨gb, 1, none⟩ = some (.slice A0_1 l0_1.length c0_1) := (bC_ BX2.out 1).trans rfl; have y2 : w3.cell? ⟨gb, 2, none⟩ = some (.int .i64 x.f0) := (bC_ BX2.out 2).trans rfl; have y3 : w3.cell? ⟨gb, 3, none⟩ = some (.int .i64 x.f1) := (bC_ BX2.out 3).trans rfl; have y4 : w3.cell? ⟨gb, 4, none⟩ = some (.int .i64 x.f2) := (bC_ BX2.out 4).trans rfl; have y5 : w3.cell? ⟨gb, 5, none⟩ = some (.int .i64 x.f3) := (bC_ BX2.out 5).trans rfl; have y6 : w3.cell? ⟨gb, 6, none⟩ = some (.int .i64 x.f4) := (bC_ BX2.out 6).trans rfl; have y7 : w3.cell? ⟨gb, 7, none⟩ = some (.string x.f5) := (bC_ BX2.out 7).trans rfl) | (go_at_call 39; refine (HI.out _).mono ?_; rintro e w4 ⟨rfl, hb⟩; have HB3 := As_.mk (HB2.out.trans (hb.mono HB2.out.size)); have BX3 := As_.mk (kB_ BX2.out hb); clear hb; have z2 : w4.cell? ⟨gb, 2, none⟩ = some (.int .i64 x.f0) := (bC_ BX3.out 2).trans rfl))
              go_ret
              exact ⟨by rw [← HH.out, if_neg (by rw [hz]; decide), hI]; rfl, HB3.out⟩
            | true =>
              have hI' : insOk x.f0 x.f1 x.f2 x.f3 x.f4 x.f5 = true := hI
              rw [hI'] at HI
              clear hI' h0 h201
              go_enter Try.func75, Try.ntmps75
              go_wp2_with (first | ((with_reducible refine gate_dst (N := 1) rfl ?_); refine bX_ (N := 1) (cs := #[.slice A0_0 0 c0_0, .slice A0_1 l0_1.length c0_1, .int .i64 x.f0, .int .i64 x.f1, .int .i64 x.f2, .int .i64 x.f3, .int .i64 x.f4, .string x.f5]) (t := 73) ?_; intro gb hgb w1 hbox hb; have x0 : w1.cell? ⟨gb, 0, none⟩ = some (.slice A0_0 0 c0_0) := (bC_ hbox 0).trans rfl; have x1 : w1.cell? ⟨gb, 1, none⟩ = some (.slice A0_1 l0_1.length c0_1) := (bC_ hbox 1).trans rfl; have BX := As_.mk hbox; have HB := As_.mk hb; clear hbox hb hgb))
              refine wp_loop_once ?_
              go_wp2_with (first | (go_at_call 32; refine (HS.out _ HB.out).mono ?_; rintro e w3 ⟨rfl, hb⟩; have HB2 := As_.mk (HB.out.trans (hb.mono HB.out.size)); have BX2 := As_.mk (kB_ BX.out hb); clear hb x0 x1; have y0 : w3.cell? ⟨gb, 0, none⟩ = some (.slice A0_0 0 c0_0) := (bC_ BX2.out 0).trans rfl; have y1 : w3.cell? ⟨gb, 1, none⟩ = some (.slice A0_1 l0_1.length c0_1) := (bC_ BX2.out 1).trans rfl; have y2 : w3.cell? ⟨gb, 2, none⟩ = some (.int .i64 x.f0) := (bC_ BX2.out 2).trans rfl; have y3 : w3.cell? ⟨gb, 3, none⟩ = some (.int .i64 x.f1) := (bC_ BX2.out 3).trans rfl; have y4 : w3.cell? ⟨gb, 4, none⟩ = some (.int .i64 x.f2) := (bC_ BX2.out 4).trans rfl; have y5 : w3.cell? ⟨gb, 5, none⟩ = some (.int .i64 x.f3) := (bC_ BX2.out 5).trans rfl; have y6 : w3.cell? ⟨gb, 6, none⟩ = some (.int .i64 x.f4) := (bC_ BX2.out 6).trans rfl; have y7 : w3.cell? ⟨gb, 7, none⟩ = some (.string x.f5) := (bC_ BX2.out 7).trans rfl) | (go_at_call 39; refine (HI.out _).mono ?_; rintro e w4 ⟨rfl, hb⟩; have HB3 := As_.mk (HB2.out.trans (hb.mono HB2.out.size)); have BX3 := As_.mk (kB_ BX2.out hb); clear hb; have z2 : w4.cell? ⟨gb, 2, none⟩ = some (.int .i64 x.f0) := (bC_ BX3.out 2).trans rfl) | (go_at_call 40; refine (r3_Ends.calls x.f0 _ _ (rends_eq x.f0)).mono ?_; rintro e w5 ⟨rfl, ⟨nd, rfl⟩⟩; have HB4 := As_.mk (bN_ HB3.out nd); cases hE : endsOp x.f0))
              all_goals (
                go_ret
                exact ⟨by rw [← HH.out, if_neg (by rw [hz]; decide), hE, d201]; simp [hI], HB4.out⟩)
          · have c201 : ((l0_1.length : Int) + 1 ≤ 200) = False := eq_false (by omega)
            have d201 := decide_eq_false h201
            clear h0 h201
            go_enter Try.func75, Try.ntmps75
            go_wp2_with (first | ((with_reducible refine gate_dst (N := 1) rfl ?_); refine bX_ (N := 1) (cs := #[.slice A0_0 0 c0_0, .slice A0_1 l0_1.length c0_1, .int .i64 x.f0, .int .i64 x.f1, .int .i64 x.f2, .int .i64 x.f3, .int .i64 x.f4, .string x.f5]) (t := 73) ?_; intro gb hgb w1 hbox hb; have x0 : w1.cell? ⟨gb, 0, none⟩ = some (.slice A0_0 0 c0_0) := (bC_ hbox 0).trans rfl; have x1 : w1.cell? ⟨gb, 1, none⟩ = some (.slice A0_1 l0_1.length c0_1) := (bC_ hbox 1).trans rfl; have BX := As_.mk hbox; have HB := As_.mk hb; clear hbox hb hgb))
            refine wp_loop_once ?_
            go_wp2_with (go_at_call 32; refine (HS.out _ HB.out).mono ?_; rintro e w3 ⟨rfl, hb⟩; have HB2 := As_.mk (HB.out.trans (hb.mono HB.out.size)); have BX2 := As_.mk (kB_ BX.out hb); clear hb x0 x1; have y0 : w3.cell? ⟨gb, 0, none⟩ = some (.slice A0_0 0 c0_0) := (bC_ BX2.out 0).trans rfl; have y1 : w3.cell? ⟨gb, 1, none⟩ = some (.slice A0_1 l0_1.length c0_1) := (bC_ BX2.out 1).trans rfl; have y2 : w3.cell? ⟨gb, 2, none⟩ = some (.int .i64 x.f0) := (bC_ BX2.out 2).trans rfl; have y3 : w3.cell? ⟨gb, 3, none⟩ = some (.int .i64 x.f1) := (bC_ BX2.out 3).trans rfl; have y4 : w3.cell? ⟨gb, 4, none⟩ = some (.int .i64 x.f2) := (bC_ BX2.out 4).trans rfl; have y5 : w3.cell? ⟨gb, 5, none⟩ = some (.int .i64 x.f3) := (bC_ BX2.out 5).trans rfl; have y6 : w3.cell? ⟨gb, 6, none⟩ = some (.int .i64 x.f4) := (bC_ BX2.out 6).trans rfl; have y7 : w3.cell? ⟨gb, 7, none⟩ = some (.string x.f5) := (bC_ BX2.out 7).trans rfl)
            go_ret
            exact ⟨by rw [← HH.out, if_neg (by rw [hz]; decide), d201]; simp, HB2.out⟩
  · exact absurd h (by simp)
end Go.Proofs.Ytibfkkjkahpobaa.PDag
end
