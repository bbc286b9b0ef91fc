import Derived.Test.YtibfkkjkahpobaaGreatOf15
import Derived.Test.YtibfkkjkahpobaaGreatOf21
import Derived.Test.YtibfkkjkahpobaaGreatOf18
import Derived.Test.YtibfkkjkahpobaaGreatOf20
set_option linter.unusedVariables false
set_option linter.unusedSimpArgs false
set_option maxHeartbeats 8000000
set_option maxRecDepth 100000
open Go.RowKit Go.Proofs.YtibfkkjkahpobaaGreatW.PrintWords Go.Proofs.YtibfkkjkahpobaaGreatW.PrintLast Go.Proofs.YtibfkkjkahpobaaGreatW.PrintMore
namespace Go.Proofs.YtibfkkjkahpobaaGreat.PDag
section
attribute [local go_sem] max2_int min2_int max_two min_two max_three min_three max_four min_four
def w12_Heavy.l0 : Nat → Int → Int → List ByteArray → List (S122) → Option (Bool)
  | 0, _, _, _, _ => none
  | k + 1, x3, x4, x112a, x112b => if x4 < (x112b.length : Int) then (if x3 < 1048576 then (if 0 ≤ x4 then ((w0_UnitWeight.f k ((J122 x112b x4).f0) ((J122 x112b x4).f1) ((J122 x112b x4).f2) ((J122 x112b x4).f3)).bind fun t114 => (w12_Heavy.l0 k (wrap64 (x3 + t114)) (wrap64 (x4 + 1)) x112a x112b)) else (none)) else (some (decide (x3 > 900)))) else (some (decide (x3 > 900)))
def w12_Heavy.f (k : Nat) (l0_0 : List ByteArray) (l0_1 : List (S122)) : Option (Bool) := (w0_Texts.f k l0_0).bind fun t112 => (w12_Heavy.l0 k (wrap64 ((l0_1.length : Int) + (wrap64 (Int.tdiv t112 16)))) 0 l0_0 l0_1)
theorem w12_Heavy.calls (k : Nat) (A0_0 : Option Addr) (c0_0 : Nat) (l0_0 : List ByteArray) (A0_1 : Option Addr) (c0_1 : Nat) (l0_1 : List (S122)) (r : Bool) (w : World) (hr0_0 : Kd.C Kd.string w A0_0 l0_0.length l0_0) (hc0_0 : l0_0.length ≤ c0_0) (hr0_1 : Kd.C k122 w A0_1 l0_1.length l0_1) (hc0_1 : l0_1.length ≤ c0_1) (h : w12_Heavy.f k l0_0 l0_1 = some r) :
    Calls Tryz.prog 54 #[.agg #[.slice A0_0 l0_0.length c0_0, .slice A0_1 l0_1.length c0_1]] w fun e w' => e = .returned (.bool r) ∧ Below w.heap.size w w' := by
 have hu31 := Tryz.underlying31; have hu122 := Tryz.underlying122; have HR0_0 := aM_ hr0_0; have HC0_0 := aM_ hc0_0; clear hr0_0 hc0_0; have HR0_1 := aM_ hr0_1; have HC0_1 := aM_ hc0_1; clear hr0_1 hc0_1; have HB := aM_ (Below.refl w.heap.size w); have H : ((w0_Texts.f k l0_0).bind fun t112 => (w12_Heavy.l0 k (wrap64 ((l0_1.length : Int) + (wrap64 (Int.tdiv t112 16)))) 0 l0_0 l0_1)) = some r := h; clear h; obtain ⟨t112, A2, H⟩ := oB_ H; replace H := aM_ H; go_enter Tryz.func54, Tryz.ntmps54
 go_wp2_with (first | ((with_reducible refine gate_dst (N := 1) rfl ?_); refine bX_ (N := 1) (cs := #[.slice A0_0 l0_0.length c0_0, .slice A0_1 l0_1.length c0_1]) (t := 31) ?_; intro gb111 hg w3 hbox hb; replace BK111 := aM_ (hbox); replace GW111 := aM_ (gE_ hg (bl_ HB)); replace GE111 := aM_ (gE_ hg (bl_ HB)); replace HB := aM_ (bT_ (bl_ HB) hb); clear hb hbox hg; have hcz4_0 : w3.cell? ⟨gb111, 0, none⟩ = some (.slice A0_0 l0_0.length c0_0) := (bC_ BK111.out 0).trans rfl; have hcz4_1 : w3.cell? ⟨gb111, 1, none⟩ = some (.slice A0_1 l0_1.length c0_1) := (bC_ BK111.out 1).trans rfl; have hfz4_0 := bZ_ BK111.out 0; have hfz4_1 := bZ_ BK111.out 1) | (go_at_call 85; (with_reducible refine (w0_Texts.calls k _ _ l0_0 t112 _ ?side1 ?side2 A2.out).mono ?_); (case side1 => exact rC_ (Kd.C_below HR0_0.out HB.out)); (case side2 => exact HC0_0.out); rintro e w' ⟨rfl, ⟨nd, rfl⟩⟩; (try first | exact ⟨rfl, _, dN_⟩ | exact ⟨rfl, _, dT_⟩)))
 repeat (go_quiet (first | ((with_reducible refine gate_dst (N := 1) rfl ?_); refine bX_ (N := 1) (cs := #[.slice A0_0 l0_0.length c0_0, .slice A0_1 l0_1.length c0_1]) (t := 31) ?_; intro gb111 hg w3 hbox hb; replace BK111 := aM_ (hbox); replace GW111 := aM_ (gE_ hg (bl_ HB)); replace GE111 := aM_ (gE_ hg (bl_ HB)); replace HB := aM_ (bT_ (bl_ HB) hb); clear hb hbox hg; have hcz4_0 : w3.cell? ⟨gb111, 0, none⟩ = some (.slice A0_0 l0_0.length c0_0) := (bC_ BK111.out 0).trans rfl; have hcz4_1 : w3.cell? ⟨gb111, 1, none⟩ = some (.slice A0_1 l0_1.length c0_1) := (bC_ BK111.out 1).trans rfl; have hfz4_0 := bZ_ BK111.out 0; have hfz4_1 := bZ_ BK111.out 1) | (go_at_call 85; (with_reducible refine (w0_Texts.calls k _ _ l0_0 t112 _ ?side1 ?side2 A2.out).mono ?_); (case side1 => exact rC_ (Kd.C_below HR0_0.out HB.out)); (case side2 => exact HC0_0.out); rintro e w' ⟨rfl, ⟨nd, rfl⟩⟩; (try first | exact ⟨rfl, _, dN_⟩ | exact ⟨rfl, _, dT_⟩))); try go_wp2_with (first | ((with_reducible refine gate_dst (N := 1) rfl ?_); refine bX_ (N := 1) (cs := #[.slice A0_0 l0_0.length c0_0, .slice A0_1 l0_1.length c0_1]) (t := 31) ?_; intro gb111 hg w3 hbox hb; replace BK111 := aM_ (hbox); replace GW111 := aM_ (gE_ hg (bl_ HB)); replace GE111 := aM_ (gE_ hg (bl_ HB)); replace HB := aM_ (bT_ (bl_ HB) hb); clear hb hbox hg; have hcz4_0 : w3.cell? ⟨gb111, 0, none⟩ = some (.slice A0_0 l0_0.length c0_0) := (bC_ BK111.out 0).trans rfl; have hcz4_1 : w3.cell? ⟨gb111, 1, none⟩ = some (.slice A0_1 l0_1.length c0_1) := (bC_ BK111.out 1).trans rfl; have hfz4_0 := bZ_ BK111.out 0; have hfz4_1 := bZ_ BK111.out 1) | (go_at_call 85; (with_reducible refine (w0_Texts.calls k _ _ l0_0 t112 _ ?side1 ?side2 A2.out).mono ?_); (case side1 => exact rC_ (Kd.C_below HR0_0.out HB.out)); (case side2 => exact HC0_0.out); rintro e w' ⟨rfl, ⟨nd, rfl⟩⟩; (try first | exact ⟨rfl, _, dN_⟩ | exact ⟨rfl, _, dT_⟩))))
 go_loopg [3, 4] k (fun kq v3 v4 w' => ∃ (x3_1 : Int) (x4_1 : Int), v3 = .int .i64 x3_1 ∧ v4 = .int .i64 x4_1 ∧ As_ (w12_Heavy.l0 kq x3_1 x4_1 l0_0 l0_1 = some r) ∧ As_ (kq ≤ k) ∧ As_ (w'.heap[gb111]? = some (.cells #[(.slice A0_0 l0_0.length c0_0), (.slice A0_1 l0_1.length c0_1)] 31 (0, 0))) ∧ As_ (Below w.heap.size w w'))
 case atStart => exact ⟨(wrap64 ((l0_1.length : Int) + (wrap64 (Int.tdiv t112 16)))), (0), eQ_, eQ_, H, ⟨Nat.le_refl _⟩, ⟨rB_ BK111⟩, ⟨bs_ HB GE111⟩⟩
 case round =>
  clear H; obtain ⟨x3_1, x4_1, rfl, rfl, HA, HK1, BK111, HB⟩ := hrel
  cases gk with
  | zero => exact absurd HA.out (by simp [w12_Heavy.l0])
  | succ k1 =>
   have H := HA.out; clear HA; simp only [w12_Heavy.l0] at H
   by_cases c5 : x4_1 < (l0_1.length : Int)
   ·rw [if_pos c5] at H; have c5b0 := dE_ c5; clear c5
    by_cases c6 : x3_1 < 1048576
    ·rw [if_pos c6] at H; have c6b0 := dE_ c6; clear c6
     by_cases c7 : 0 ≤ x4_1
     ·rw [if_pos c7] at H; have c7b0 := dE_ c7; clear c7; obtain ⟨t114, A8, H⟩ := oB_ H; replace H := aM_ H; have hcz9_0 : wr.cell? ⟨gb111, 0, none⟩ = some (.slice A0_0 l0_0.length c0_0) := (bC_ BK111.out 0).trans rfl; have hcz9_1 : wr.cell? ⟨gb111, 1, none⟩ = some (.slice A0_1 l0_1.length c0_1) := (bC_ BK111.out 1).trans rfl; have hfz9_0 := bZ_ BK111.out 0; have hfz9_1 := bZ_ BK111.out 1; have p113 : 0 ≤ (x4_1 : Int) := oD_; have q113 : x4_1 < (l0_1.length : Int) := oD_; obtain ⟨ad113, A113_0, c113_0, A113_1, c113_1, A113_2, c113_2, A113_3, c113_3, e113, hx113_0, hx113_1, hx113_2, hx113_3, hl113_0, hi113_0, hl113_1, hi113_1, hl113_2, hi113_2, hl113_3, hi113_3⟩ := at_T122 HR0_1.out x4_1 p113 q113
      cases e113
      replace hx113_0 := hC_ HB hx113_0; replace hx113_1 := hC_ HB hx113_1; replace hx113_2 := hC_ HB hx113_2; replace hx113_3 := hC_ HB hx113_3; have HR113_0 := aM_ hi113_0; have HC113_0 := aM_ hl113_0; clear hi113_0 hl113_0; have HR113_1 := aM_ hi113_1; have HC113_1 := aM_ hl113_1; clear hi113_1 hl113_1; have HR113_2 := aM_ hi113_2; have HC113_2 := aM_ hl113_2; clear hi113_2 hl113_2; have HR113_3 := aM_ hi113_3; have HC113_3 := aM_ hl113_3; clear hi113_3 hl113_3; replace p113 := eq_true p113; replace q113 := eq_true q113
      go_wp2_with (first | (go_at_call 86; (with_reducible refine (w0_UnitWeight.calls k1 _ _ ((J122 l0_1 x4_1).f0) _ _ ((J122 l0_1 x4_1).f1) _ _ ((J122 l0_1 x4_1).f2) _ _ ((J122 l0_1 x4_1).f3) t114 _ ?side1 ?side2 ?side3 ?side4 ?side5 ?side6 ?side7 ?side8 A8.out).mono ?_); (case side1 => exact rC_ (Kd.C_below HR113_0.out HB.out)); (case side2 => exact HC113_0.out); (case side3 => exact rC_ (Kd.C_below HR113_1.out HB.out)); (case side4 => exact HC113_1.out); (case side5 => exact rC_ (Kd.C_below HR113_2.out HB.out)); (case side6 => exact HC113_2.out); (case side7 => exact rC_ (Kd.C_below HR113_3.out HB.out)); (case side8 => exact HC113_3.out); rintro e w10 ⟨rfl, hb⟩; replace BK111 := aM_ (kB_ (rB_ BK111) hb); replace HB := aM_ (bT_ (bs_ HB GE111) hb)))
      repeat (go_quiet (first | (go_at_call 86; (with_reducible refine (w0_UnitWeight.calls k1 _ _ ((J122 l0_1 x4_1).f0) _ _ ((J122 l0_1 x4_1).f1) _ _ ((J122 l0_1 x4_1).f2) _ _ ((J122 l0_1 x4_1).f3) t114 _ ?side1 ?side2 ?side3 ?side4 ?side5 ?side6 ?side7 ?side8 A8.out).mono ?_); (case side1 => exact rC_ (Kd.C_below HR113_0.out HB.out)); (case side2 => exact HC113_0.out); (case side3 => exact rC_ (Kd.C_below HR113_1.out HB.out)); (case side4 => exact HC113_1.out); (case side5 => exact rC_ (Kd.C_below HR113_2.out HB.out)); (case side6 => exact HC113_2.out); (case side7 => exact rC_ (Kd.C_below HR113_3.out HB.out)); (case side8 => exact HC113_3.out); rintro e w10 ⟨rfl, hb⟩; replace BK111 := aM_ (kB_ (rB_ BK111) hb); replace HB := aM_ (bT_ (bs_ HB GE111) hb))); try go_wp2_with (first | (go_at_call 86; (with_reducible refine (w0_UnitWeight.calls k1 _ _ ((J122 l0_1 x4_1).f0) _ _ ((J122 l0_1 x4_1).f1) _ _ ((J122 l0_1 x4_1).f2) _ _ ((J122 l0_1 x4_1).f3) t114 _ ?side1 ?side2 ?side3 ?side4 ?side5 ?side6 ?side7 ?side8 A8.out).mono ?_); (case side1 => exact rC_ (Kd.C_below HR113_0.out HB.out)); (case side2 => exact HC113_0.out); (case side3 => exact rC_ (Kd.C_below HR113_1.out HB.out)); (case side4 => exact HC113_1.out); (case side5 => exact rC_ (Kd.C_below HR113_2.out HB.out)); (case side6 => exact HC113_2.out); (case side7 => exact rC_ (Kd.C_below HR113_3.out HB.out)); (case side8 => exact HC113_3.out); rintro e w10 ⟨rfl, hb⟩; replace BK111 := aM_ (kB_ (rB_ BK111) hb); replace HB := aM_ (bT_ (bs_ HB GE111) hb))))
      go_roundg k1
      case measure => have := HK1.out; omega
      case rel => exact ⟨(wrap64 (x3_1 + t114)), (wrap64 (x4_1 + 1)), eQ_, eQ_, H, ⟨by have := HK1.out; omega⟩, ⟨rB_ BK111⟩, ⟨bs_ HB GE111⟩⟩
     rw [if_neg c7] at H; exact absurd H (by simp)
    rw [if_neg c6] at H; have c6b0 := dF_ c6; clear c6; obtain rfl := oI_ H; have hcz11_0 : wr.cell? ⟨gb111, 0, none⟩ = some (.slice A0_0 l0_0.length c0_0) := (bC_ BK111.out 0).trans rfl; have hcz11_1 : wr.cell? ⟨gb111, 1, none⟩ = some (.slice A0_1 l0_1.length c0_1) := (bC_ BK111.out 1).trans rfl; have hfz11_0 := bZ_ BK111.out 0; have hfz11_1 := bZ_ BK111.out 1; go_wp2
    repeat (go_quiet (fail); try go_wp2)
    go_ret; exact ⟨eR_, bs_ HB GE111⟩
   rw [if_neg c5] at H; have c5b0 := dF_ c5; clear c5; obtain rfl := oI_ H; have hcz12_0 : wr.cell? ⟨gb111, 0, none⟩ = some (.slice A0_0 l0_0.length c0_0) := (bC_ BK111.out 0).trans rfl; have hcz12_1 : wr.cell? ⟨gb111, 1, none⟩ = some (.slice A0_1 l0_1.length c0_1) := (bC_ BK111.out 1).trans rfl; have hfz12_0 := bZ_ BK111.out 0; have hfz12_1 := bZ_ BK111.out 1; go_wp2
   repeat (go_quiet (fail); try go_wp2)
   go_ret; exact ⟨eR_, bs_ HB GE111⟩
def w13_Heavy.l0 : Nat → Int → Int → List ByteArray → List (S122) → List (S41) → Option (Bool)
  | 0, _, _, _, _, _ => none
  | k + 1, x3, x4, x116a, x116b, x116c => if x4 < (x116c.length : Int) then (if x3 < 1048576 then (if 0 ≤ x4 then (w13_Heavy.l0 k (wrap64 ((wrap64 (x3 + (((J41 x116c x4).f0).length : Int))) + (((J41 x116c x4).f1).length : Int))) (wrap64 (x4 + 1)) x116a x116b x116c) else (none)) else (if x3 > 400 then (some true) else ((w12_Heavy.f k x116a x116b).bind fun t118 => (some t118)))) else (if x3 > 400 then (some true) else ((w12_Heavy.f k x116a x116b).bind fun t119 => (some t119)))
def w13_Heavy.f (k : Nat) (l0_0 : List ByteArray) (l0_1 : List (S122)) (l0_2 : List (S41)) : Option (Bool) := w13_Heavy.l0 k (l0_2.length : Int) 0 l0_0 l0_1 l0_2
theorem w13_Heavy.calls (k : Nat) (A0_0 : Option Addr) (c0_0 : Nat) (l0_0 : List ByteArray) (A0_1 : Option Addr) (c0_1 : Nat) (l0_1 : List (S122)) (A0_2 : Option Addr) (c0_2 : Nat) (l0_2 : List (S41)) (r : Bool) (w : World) (hr0_0 : Kd.C Kd.string w A0_0 l0_0.length l0_0) (hc0_0 : l0_0.length ≤ c0_0) (hr0_1 : Kd.C k122 w A0_1 l0_1.length l0_1) (hc0_1 : l0_1.length ≤ c0_1) (hr0_2 : Kd.C k41 w A0_2 l0_2.length l0_2) (hc0_2 : l0_2.length ≤ c0_2) (h : w13_Heavy.f k l0_0 l0_1 l0_2 = some r) :
    Calls Tryz.prog 28 #[.agg #[.slice A0_0 l0_0.length c0_0, .slice A0_1 l0_1.length c0_1, .slice A0_2 l0_2.length c0_2]] w fun e w' => e = .returned (.bool r) ∧ Below w.heap.size w w' := by
 have hu34 := Tryz.underlying34; have hu31 := Tryz.underlying31; have HR0_0 := aM_ hr0_0; have HC0_0 := aM_ hc0_0; clear hr0_0 hc0_0; have HR0_1 := aM_ hr0_1; have HC0_1 := aM_ hc0_1; clear hr0_1 hc0_1; have HR0_2 := aM_ hr0_2; have HC0_2 := aM_ hc0_2; clear hr0_2 hc0_2; have HB := aM_ (Below.refl w.heap.size w); have H : (w13_Heavy.l0 k (l0_2.length : Int) 0 l0_0 l0_1 l0_2) = some r := h; clear h; replace H := aM_ H; go_enter Tryz.func28, Tryz.ntmps28
 go_wp2_with (first | ((with_reducible refine gate_dst (N := 1) rfl ?_); refine bX_ (N := 1) (cs := #[.slice A0_0 l0_0.length c0_0, .slice A0_1 l0_1.length c0_1, .slice A0_2 l0_2.length c0_2]) (t := 34) ?_; intro gb115 hg w2 hbox hb; replace BK115 := aM_ (hbox); replace GW115 := aM_ (gE_ hg (bl_ HB)); replace GE115 := aM_ (gE_ hg (bl_ HB)); replace HB := aM_ (bT_ (bl_ HB) hb); clear hb hbox hg; obtain ⟨hcz3_0, hcz3_1, hcz3_2⟩ := cl3_ BK115.out; obtain ⟨hfz3_0, hfz3_1, hfz3_2⟩ := fz3_ BK115.out))
 repeat (go_quiet (first | ((with_reducible refine gate_dst (N := 1) rfl ?_); refine bX_ (N := 1) (cs := #[.slice A0_0 l0_0.length c0_0, .slice A0_1 l0_1.length c0_1, .slice A0_2 l0_2.length c0_2]) (t := 34) ?_; intro gb115 hg w2 hbox hb; replace BK115 := aM_ (hbox); replace GW115 := aM_ (gE_ hg (bl_ HB)); replace GE115 := aM_ (gE_ hg (bl_ HB)); replace HB := aM_ (bT_ (bl_ HB) hb); clear hb hbox hg; obtain ⟨hcz3_0, hcz3_1, hcz3_2⟩ := cl3_ BK115.out; obtain ⟨hfz3_0, hfz3_1, hfz3_2⟩ := fz3_ BK115.out)); try go_wp2_with (first | ((with_reducible refine gate_dst (N := 1) rfl ?_); refine bX_ (N := 1) (cs := #[.slice A0_0 l0_0.length c0_0, .slice A0_1 l0_1.length c0_1, .slice A0_2 l0_2.length c0_2]) (t := 34) ?_; intro gb115 hg w2 hbox hb; replace BK115 := aM_ (hbox); replace GW115 := aM_ (gE_ hg (bl_ HB)); replace GE115 := aM_ (gE_ hg (bl_ HB)); replace HB := aM_ (bT_ (bl_ HB) hb); clear hb hbox hg; obtain ⟨hcz3_0, hcz3_1, hcz3_2⟩ := cl3_ BK115.out; obtain ⟨hfz3_0, hfz3_1, hfz3_2⟩ := fz3_ BK115.out)))
 go_loopg [3, 4] k (fun kq v3 v4 w' => ∃ (x3_1 : Int) (x4_1 : Int), v3 = .int .i64 x3_1 ∧ v4 = .int .i64 x4_1 ∧ As_ (w13_Heavy.l0 kq x3_1 x4_1 l0_0 l0_1 l0_2 = some r) ∧ As_ (kq ≤ k) ∧ As_ (w'.heap[gb115]? = some (.cells #[(.slice A0_0 l0_0.length c0_0), (.slice A0_1 l0_1.length c0_1), (.slice A0_2 l0_2.length c0_2)] 34 (0, 0))) ∧ As_ (Below w.heap.size w w'))
 case atStart => exact ⟨((l0_2.length : Int)), (0), eQ_, eQ_, H, ⟨Nat.le_refl _⟩, ⟨rB_ BK115⟩, ⟨bs_ HB GE115⟩⟩
 case round =>
  clear H; obtain ⟨x3_1, x4_1, rfl, rfl, HA, HK1, BK115, HB⟩ := hrel
  cases gk with
  | zero => exact absurd HA.out (by simp [w13_Heavy.l0])
  | succ k1 =>
   have H := HA.out; clear HA; simp only [w13_Heavy.l0] at H
   by_cases c4 : x4_1 < (l0_2.length : Int)
   ·rw [if_pos c4] at H; have c4b0 := dE_ c4; clear c4
    by_cases c5 : x3_1 < 1048576
    ·rw [if_pos c5] at H; have c5b0 := dE_ c5; clear c5
     by_cases c6 : 0 ≤ x4_1
     ·rw [if_pos c6] at H; have c6b0 := dE_ c6; clear c6; replace H := aM_ H; obtain ⟨hcz7_0, hcz7_1, hcz7_2⟩ := cl3_ BK115.out; obtain ⟨hfz7_0, hfz7_1, hfz7_2⟩ := fz3_ BK115.out; have p116 : 0 ≤ (x4_1 : Int) := oD_; have q116 : x4_1 < (l0_2.length : Int) := oD_; obtain ⟨ad116, A116_0, c116_0, A116_1, c116_1, e116, hx116_0, hx116_1, hx116_2, hx116_3, hx116_4, hx116_5, hx116_6, hx116_7, hl116_0, hi116_0, hl116_1, hi116_1⟩ := at_T41 HR0_2.out x4_1 p116 q116
      cases e116
      replace hx116_0 := hC_ HB hx116_0; replace hx116_1 := hC_ HB hx116_1; replace hx116_2 := hC_ HB hx116_2; replace hx116_3 := hC_ HB hx116_3; replace hx116_4 := hC_ HB hx116_4; replace hx116_5 := hC_ HB hx116_5; replace hx116_6 := hC_ HB hx116_6; replace hx116_7 := hC_ HB hx116_7; have HR116_0 := aM_ hi116_0; have HC116_0 := aM_ hl116_0; clear hi116_0 hl116_0; have HR116_1 := aM_ hi116_1; have HC116_1 := aM_ hl116_1; clear hi116_1 hl116_1; replace p116 := eq_true p116; replace q116 := eq_true q116; have p117 : 0 ≤ (x4_1 : Int) := oD_; have q117 : x4_1 < (l0_2.length : Int) := oD_; obtain ⟨ad117, A117_0, c117_0, A117_1, c117_1, e117, hx117_0, hx117_1, hx117_2, hx117_3, hx117_4, hx117_5, hx117_6, hx117_7, hl117_0, hi117_0, hl117_1, hi117_1⟩ := at_T41 HR0_2.out x4_1 p117 q117; obtain rfl : ad116 = ad117 := (by injection e117)
      replace hx117_0 := hC_ HB hx117_0; replace hx117_1 := hC_ HB hx117_1; replace hx117_2 := hC_ HB hx117_2; replace hx117_3 := hC_ HB hx117_3; replace hx117_4 := hC_ HB hx117_4; replace hx117_5 := hC_ HB hx117_5; replace hx117_6 := hC_ HB hx117_6; replace hx117_7 := hC_ HB hx117_7; have HR117_0 := aM_ hi117_0; have HC117_0 := aM_ hl117_0; clear hi117_0 hl117_0; have HR117_1 := aM_ hi117_1; have HC117_1 := aM_ hl117_1; clear hi117_1 hl117_1; replace p117 := eq_true p117; replace q117 := eq_true q117; have ea_ := Option.some.inj (hx116_0.symm.trans hx117_0); injection ea_ with ea_ en_ ec_
      subst ea_; subst ec_; clear en_; have ea_ := Option.some.inj (hx116_1.symm.trans hx117_1); injection ea_ with ea_ en_ ec_
      subst ea_; subst ec_; clear en_; go_wp2
      repeat (go_quiet (fail); try go_wp2)
      go_roundg k1
      case measure => have := HK1.out; omega
      case rel => exact ⟨(wrap64 ((wrap64 (x3_1 + (((J41 l0_2 x4_1).f0).length : Int))) + (((J41 l0_2 x4_1).f1).length : Int))), (wrap64 (x4_1 + 1)), eQ_, eQ_, H, ⟨by have := HK1.out; omega⟩, ⟨rB_ BK115⟩, ⟨bs_ HB GE115⟩⟩
     rw [if_neg c6] at H; exact absurd H (by simp)
    rw [if_neg c5] at H; have c5b0 := dF_ c5; clear c5
    by_cases c8 : x3_1 > 400
    ·rw [if_pos c8] at H; have c8b0 := dE_ c8; clear c8; obtain rfl := oI_ H; obtain ⟨hcz9_0, hcz9_1, hcz9_2⟩ := cl3_ BK115.out; obtain ⟨hfz9_0, hfz9_1, hfz9_2⟩ := fz3_ BK115.out; go_wp2
     repeat (go_quiet (fail); try go_wp2)
     go_ret; exact ⟨eR_, bs_ HB GE115⟩
    rw [if_neg c8] at H; have c8b0 := dF_ c8; clear c8; obtain ⟨t118, A10, H⟩ := oB_ H; obtain rfl := oI_ H; obtain ⟨hcz11_0, hcz11_1, hcz11_2⟩ := cl3_ BK115.out; obtain ⟨hfz11_0, hfz11_1, hfz11_2⟩ := fz3_ BK115.out
    go_wp2_with (first | (go_at_call 54; (with_reducible refine (w12_Heavy.calls k1 _ _ l0_0 _ _ l0_1 t118 _ ?side1 ?side2 ?side3 ?side4 A10.out).mono ?_); (case side1 => exact rC_ (Kd.C_below HR0_0.out HB.out)); (case side2 => exact HC0_0.out); (case side3 => exact rC_ (Kd.C_below HR0_1.out HB.out)); (case side4 => exact HC0_1.out); rintro e w12 ⟨rfl, hb⟩; replace BK115 := aM_ (kB_ (rB_ BK115) hb); replace HB := aM_ (bT_ (bs_ HB GE115) hb)))
    repeat (go_quiet (first | (go_at_call 54; (with_reducible refine (w12_Heavy.calls k1 _ _ l0_0 _ _ l0_1 t118 _ ?side1 ?side2 ?side3 ?side4 A10.out).mono ?_); (case side1 => exact rC_ (Kd.C_below HR0_0.out HB.out)); (case side2 => exact HC0_0.out); (case side3 => exact rC_ (Kd.C_below HR0_1.out HB.out)); (case side4 => exact HC0_1.out); rintro e w12 ⟨rfl, hb⟩; replace BK115 := aM_ (kB_ (rB_ BK115) hb); replace HB := aM_ (bT_ (bs_ HB GE115) hb))); try go_wp2_with (first | (go_at_call 54; (with_reducible refine (w12_Heavy.calls k1 _ _ l0_0 _ _ l0_1 t118 _ ?side1 ?side2 ?side3 ?side4 A10.out).mono ?_); (case side1 => exact rC_ (Kd.C_below HR0_0.out HB.out)); (case side2 => exact HC0_0.out); (case side3 => exact rC_ (Kd.C_below HR0_1.out HB.out)); (case side4 => exact HC0_1.out); rintro e w12 ⟨rfl, hb⟩; replace BK115 := aM_ (kB_ (rB_ BK115) hb); replace HB := aM_ (bT_ (bs_ HB GE115) hb))))
    go_ret; exact ⟨eR_, bs_ HB GE115⟩
   rw [if_neg c4] at H; have c4b0 := dF_ c4; clear c4
   by_cases c13 : x3_1 > 400
   ·rw [if_pos c13] at H; have c13b0 := dE_ c13; clear c13; obtain rfl := oI_ H; obtain ⟨hcz14_0, hcz14_1, hcz14_2⟩ := cl3_ BK115.out; obtain ⟨hfz14_0, hfz14_1, hfz14_2⟩ := fz3_ BK115.out; go_wp2
    repeat (go_quiet (fail); try go_wp2)
    go_ret; exact ⟨eR_, bs_ HB GE115⟩
   rw [if_neg c13] at H; have c13b0 := dF_ c13; clear c13; obtain ⟨t119, A15, H⟩ := oB_ H; obtain rfl := oI_ H; obtain ⟨hcz16_0, hcz16_1, hcz16_2⟩ := cl3_ BK115.out; obtain ⟨hfz16_0, hfz16_1, hfz16_2⟩ := fz3_ BK115.out
   go_wp2_with (first | (go_at_call 54; (with_reducible refine (w12_Heavy.calls k1 _ _ l0_0 _ _ l0_1 t119 _ ?side1 ?side2 ?side3 ?side4 A15.out).mono ?_); (case side1 => exact rC_ (Kd.C_below HR0_0.out HB.out)); (case side2 => exact HC0_0.out); (case side3 => exact rC_ (Kd.C_below HR0_1.out HB.out)); (case side4 => exact HC0_1.out); rintro e w17 ⟨rfl, hb⟩; replace BK115 := aM_ (kB_ (rB_ BK115) hb); replace HB := aM_ (bT_ (bs_ HB GE115) hb)))
   repeat (go_quiet (first | (go_at_call 54; (with_reducible refine (w12_Heavy.calls k1 _ _ l0_0 _ _ l0_1 t119 _ ?side1 ?side2 ?side3 ?side4 A15.out).mono ?_); (case side1 => exact rC_ (Kd.C_below HR0_0.out HB.out)); (case side2 => exact HC0_0.out); (case side3 => exact rC_ (Kd.C_below HR0_1.out HB.out)); (case side4 => exact HC0_1.out); rintro e w17 ⟨rfl, hb⟩; replace BK115 := aM_ (kB_ (rB_ BK115) hb); replace HB := aM_ (bT_ (bs_ HB GE115) hb))); try go_wp2_with (first | (go_at_call 54; (with_reducible refine (w12_Heavy.calls k1 _ _ l0_0 _ _ l0_1 t119 _ ?side1 ?side2 ?side3 ?side4 A15.out).mono ?_); (case side1 => exact rC_ (Kd.C_below HR0_0.out HB.out)); (case side2 => exact HC0_0.out); (case side3 => exact rC_ (Kd.C_below HR0_1.out HB.out)); (case side4 => exact HC0_1.out); rintro e w17 ⟨rfl, hb⟩; replace BK115 := aM_ (kB_ (rB_ BK115) hb); replace HB := aM_ (bT_ (bs_ HB GE115) hb))))
   go_ret; exact ⟨eR_, bs_ HB GE115⟩
def w15_Heavy.f (k : Nat) (l0_0 : List (S24)) (a0_1 : Int) (a0_2 : Int) (a0_3 : Int) (a0_4 : Int) (a0_5 : Int) (a0_6 : ByteArray) (l0_7 : List Int) (l0_8 : List ByteArray) (l0_9 : List (S122)) (l0_10 : List (S41)) (l0_11 : List (S62)) : Option (Bool) := if (l0_11.length : Int) > 100 then (some true) else ((w14_Heavy.f k l0_0 a0_1 a0_2 a0_3 a0_4 a0_5 a0_6 l0_7).bind fun t121 => (if t121 = true then (some true) else ((w13_Heavy.f k l0_8 l0_9 l0_10).bind fun t122 => (some t122))))
theorem w15_Heavy.calls (k : Nat) (A0_0 : Option Addr) (c0_0 : Nat) (l0_0 : List (S24)) (a0_1 : Int) (a0_2 : Int) (a0_3 : Int) (a0_4 : Int) (a0_5 : Int) (a0_6 : ByteArray) (A0_7 : Option Addr) (c0_7 : Nat) (l0_7 : List Int) (A0_8 : Option Addr) (c0_8 : Nat) (l0_8 : List ByteArray) (A0_9 : Option Addr) (c0_9 : Nat) (l0_9 : List (S122)) (A0_10 : Option Addr) (c0_10 : Nat) (l0_10 : List (S41)) (A0_11 : Option Addr) (c0_11 : Nat) (l0_11 : List (S62)) (r : Bool) (w : World) (hr0_0 : Kd.C k24 w A0_0 l0_0.length l0_0) (hc0_0 : l0_0.length ≤ c0_0) (hr0_7 : Kd.C (Kd.int .i64) w A0_7 l0_7.length l0_7) (hc0_7 : l0_7.length ≤ c0_7) (hr0_8 : Kd.C Kd.string w A0_8 l0_8.length l0_8) (hc0_8 : l0_8.length ≤ c0_8) (hr0_9 : Kd.C k122 w A0_9 l0_9.length l0_9) (hc0_9 : l0_9.length ≤ c0_9) (hr0_10 : Kd.C k41 w A0_10 l0_10.length l0_10) (hc0_10 : l0_10.length ≤ c0_10) (hr0_11 : Kd.C k62 w A0_11 l0_11.length l0_11) (hc0_11 : l0_11.length ≤ c0_11) (h : w15_Heavy.f k l0_0 a0_1 a0_2 a0_3 a0_4 a0_5 a0_6 l0_7 l0_8 l0_9 l0_10 l0_11 = some r) :
    Calls Tryz.prog 5 #[.agg #[.slice A0_0 l0_0.length c0_0, .int .i64 a0_1, .int .i64 a0_2, .int .i64 a0_3, .int .i64 a0_4, .int .i64 a0_5, .string a0_6, .slice A0_7 l0_7.length c0_7, .slice A0_8 l0_8.length c0_8, .slice A0_9 l0_9.length c0_9, .slice A0_10 l0_10.length c0_10, .slice A0_11 l0_11.length c0_11]] w fun e w' => e = .returned (.bool r) ∧ Below w.heap.size w w' := by
 have hu37 := Tryz.underlying37; have hu27 := Tryz.underlying27; have hu34 := Tryz.underlying34; have HR0_0 := aM_ hr0_0; have HC0_0 := aM_ hc0_0; clear hr0_0 hc0_0; have HR0_7 := aM_ hr0_7; have HC0_7 := aM_ hc0_7; clear hr0_7 hc0_7; have HR0_8 := aM_ hr0_8; have HC0_8 := aM_ hc0_8; clear hr0_8 hc0_8; have HR0_9 := aM_ hr0_9; have HC0_9 := aM_ hc0_9; clear hr0_9 hc0_9; have HR0_10 := aM_ hr0_10; have HC0_10 := aM_ hc0_10; clear hr0_10 hc0_10; have HR0_11 := aM_ hr0_11; have HC0_11 := aM_ hc0_11; clear hr0_11 hc0_11; have HB := aM_ (Below.refl w.heap.size w); have H : (if (l0_11.length : Int) > 100 then (some true) else ((w14_Heavy.f k l0_0 a0_1 a0_2 a0_3 a0_4 a0_5 a0_6 l0_7).bind fun t121 => (if t121 = true then (some true) else ((w13_Heavy.f k l0_8 l0_9 l0_10).bind fun t122 => (some t122))))) = some r := h; clear h
 by_cases c2 : (l0_11.length : Int) > 100
 ·rw [if_pos c2] at H; have c2b0 := dE_ c2; have c2b1 : decide (100 < l0_11.length) = true := decide_eq_true (by omega); clear c2; obtain rfl := oI_ H; go_enter Tryz.func5, Tryz.ntmps5
  go_wp2_with (first | ((with_reducible refine gate_dst (N := 1) rfl ?_); refine bX_ (N := 1) (cs := #[.slice A0_0 l0_0.length c0_0, .int .i64 a0_1, .int .i64 a0_2, .int .i64 a0_3, .int .i64 a0_4, .int .i64 a0_5, .string a0_6, .slice A0_7 l0_7.length c0_7, .slice A0_8 l0_8.length c0_8, .slice A0_9 l0_9.length c0_9, .slice A0_10 l0_10.length c0_10, .slice A0_11 l0_11.length c0_11]) (t := 37) ?_; intro gb120 hg w3 hbox hb; replace BK120 := aM_ (hbox); replace GW120 := aM_ (gE_ hg (bl_ HB)); replace GE120 := aM_ (gE_ hg (bl_ HB)); replace HB := aM_ (bT_ (bl_ HB) hb); clear hb hbox hg; obtain ⟨hcz4_0, hcz4_1, hcz4_2, hcz4_3, hcz4_4, hcz4_5, hcz4_6, hcz4_7, hcz4_8, hcz4_9, hcz4_10, hcz4_11⟩ := cl12_ BK120.out; obtain ⟨hfz4_0, hfz4_1, hfz4_2, hfz4_3, hfz4_4, hfz4_5, hfz4_6, hfz4_7, hfz4_8, hfz4_9, hfz4_10, hfz4_11⟩ := fz12_ BK120.out))
  go_ret; exact ⟨eR_, bs_ HB GE120⟩
 rw [if_neg c2] at H; have c2b0 := dF_ c2; have c2b1 : decide (100 < l0_11.length) = false := decide_eq_false (by omega); clear c2; obtain ⟨t121, A5, H⟩ := oB_ H
 by_cases c6 : t121 = true
 ·subst c6; rw [if_pos rfl] at H; obtain rfl := oI_ H; go_enter Tryz.func5, Tryz.ntmps5
  go_wp2_with (first | ((with_reducible refine gate_dst (N := 1) rfl ?_); refine bX_ (N := 1) (cs := #[.slice A0_0 l0_0.length c0_0, .int .i64 a0_1, .int .i64 a0_2, .int .i64 a0_3, .int .i64 a0_4, .int .i64 a0_5, .string a0_6, .slice A0_7 l0_7.length c0_7, .slice A0_8 l0_8.length c0_8, .slice A0_9 l0_9.length c0_9, .slice A0_10 l0_10.length c0_10, .slice A0_11 l0_11.length c0_11]) (t := 37) ?_; intro gb120 hg w7 hbox hb; replace BK120 := aM_ (hbox); replace GW120 := aM_ (gE_ hg (bl_ HB)); replace GE120 := aM_ (gE_ hg (bl_ HB)); replace HB := aM_ (bT_ (bl_ HB) hb); clear hb hbox hg; obtain ⟨hcz8_0, hcz8_1, hcz8_2, hcz8_3, hcz8_4, hcz8_5, hcz8_6, hcz8_7, hcz8_8, hcz8_9, hcz8_10, hcz8_11⟩ := cl12_ BK120.out; obtain ⟨hfz8_0, hfz8_1, hfz8_2, hfz8_3, hfz8_4, hfz8_5, hfz8_6, hfz8_7, hfz8_8, hfz8_9, hfz8_10, hfz8_11⟩ := fz12_ BK120.out) | (go_at_call 27; (with_reducible refine (w14_Heavy.calls k _ _ l0_0 a0_1 a0_2 a0_3 a0_4 a0_5 a0_6 _ _ l0_7 true _ ?side1 ?side2 ?side3 ?side4 A5.out).mono ?_); (case side1 => exact rC_ (Kd.C_below HR0_0.out HB.out)); (case side2 => exact HC0_0.out); (case side3 => exact rC_ (Kd.C_below HR0_7.out HB.out)); (case side4 => exact HC0_7.out); rintro e w9 ⟨rfl, hb⟩; replace BK120 := aM_ (kB_ (rB_ BK120) hb); replace HB := aM_ (bT_ (bs_ HB GE120) hb)))
  go_ret; exact ⟨eR_, bs_ HB GE120⟩
 replace c6 := eF_ c6; subst c6; rw [if_neg Bool.false_ne_true] at H; obtain ⟨t122, A10, H⟩ := oB_ H; obtain rfl := oI_ H; go_enter Tryz.func5, Tryz.ntmps5
 go_wp2_with (first | ((with_reducible refine gate_dst (N := 1) rfl ?_); refine bX_ (N := 1) (cs := #[.slice A0_0 l0_0.length c0_0, .int .i64 a0_1, .int .i64 a0_2, .int .i64 a0_3, .int .i64 a0_4, .int .i64 a0_5, .string a0_6, .slice A0_7 l0_7.length c0_7, .slice A0_8 l0_8.length c0_8, .slice A0_9 l0_9.length c0_9, .slice A0_10 l0_10.length c0_10, .slice A0_11 l0_11.length c0_11]) (t := 37) ?_; intro gb120 hg w11 hbox hb; replace BK120 := aM_ (hbox); replace GW120 := aM_ (gE_ hg (bl_ HB)); replace GE120 := aM_ (gE_ hg (bl_ HB)); replace HB := aM_ (bT_ (bl_ HB) hb); clear hb hbox hg; obtain ⟨hcz12_0, hcz12_1, hcz12_2, hcz12_3, hcz12_4, hcz12_5, hcz12_6, hcz12_7, hcz12_8, hcz12_9, hcz12_10, hcz12_11⟩ := cl12_ BK120.out; obtain ⟨hfz12_0, hfz12_1, hfz12_2, hfz12_3, hfz12_4, hfz12_5, hfz12_6, hfz12_7, hfz12_8, hfz12_9, hfz12_10, hfz12_11⟩ := fz12_ BK120.out) | (go_at_call 27; (with_reducible refine (w14_Heavy.calls k _ _ l0_0 a0_1 a0_2 a0_3 a0_4 a0_5 a0_6 _ _ l0_7 false _ ?side1 ?side2 ?side3 ?side4 A5.out).mono ?_); (case side1 => exact rC_ (Kd.C_below HR0_0.out HB.out)); (case side2 => exact HC0_0.out); (case side3 => exact rC_ (Kd.C_below HR0_7.out HB.out)); (case side4 => exact HC0_7.out); rintro e w13 ⟨rfl, hb⟩; replace BK120 := aM_ (kB_ (rB_ BK120) hb); replace HB := aM_ (bT_ (bs_ HB GE120) hb); obtain ⟨hcz14_0, hcz14_1, hcz14_2, hcz14_3, hcz14_4, hcz14_5, hcz14_6, hcz14_7, hcz14_8, hcz14_9, hcz14_10, hcz14_11⟩ := cl12_ BK120.out; obtain ⟨hfz14_0, hfz14_1, hfz14_2, hfz14_3, hfz14_4, hfz14_5, hfz14_6, hfz14_7, hfz14_8, hfz14_9, hfz14_10, hfz14_11⟩ := fz12_ BK120.out) | (go_at_call 28; (with_reducible refine (w13_Heavy.calls k _ _ l0_8 _ _ l0_9 _ _ l0_10 t122 _ ?side1 ?side2 ?side3 ?side4 ?side5 ?side6 A10.out).mono ?_); (case side1 => exact rC_ (Kd.C_below HR0_8.out HB.out)); (case side2 => exact HC0_8.out); (case side3 => exact rC_ (Kd.C_below HR0_9.out HB.out)); (case side4 => exact HC0_9.out); (case side5 => exact rC_ (Kd.C_below HR0_10.out HB.out)); (case side6 => exact HC0_10.out); rintro e w15 ⟨rfl, hb⟩; replace BK120 := aM_ (kB_ (rB_ BK120) hb); replace HB := aM_ (bT_ (bs_ HB GE120) hb)))
 go_ret; exact ⟨eR_, bs_ HB GE120⟩
end
section
attribute [local go_sem] max2_int min2_int max_two min_two max_three min_three max_four min_four
end
section
def okI (x : S24) : Bool := insOk x.f0 x.f1 x.f2 x.f3 x.f4 x.f5
def endsOp (op : Int) : Bool := decide (28 ≤ op) && decide (op ≤ 33)
def plainI (x : S24) : Bool := okI x && (!endsOp x.f0 && (x.f0 != 0))
theorem ins_parts {op d a b imm : Int} {s : ByteArray} (h : insOk op d a b imm s = true) : (0 ≤ op ∧ op ≤ 33) ∧ regOk (hasD (formOf op)) d = true ∧ regOk (hasA (formOf op)) a = true ∧ regOk (hasB (formOf op)) b = true ∧ immOk (formOf op) imm s = true := by
  unfold insOk at h; simpa [and_assoc] using h
theorem reg_parts {has : Bool} {n : Int} (h : regOk has n = true) : 0 ≤ n ∧ n ≤ 15 ∧ (has = false → n = 0) := by
  unfold regOk at h
  cases has <;> simp at h ⊢ <;> omega
theorem ends_eq (op : Int) : isa_Ends.f op = some (endsOp op) := by
  unfold isa_Ends.f endsOp
  by_cases h : 28 ≤ op <;> simp [h]
theorem rends_eq (op : Int) : r3_Ends.f op = some (endsOp op) := by
  unfold r3_Ends.f r0_Between.f endsOp
  by_cases h : 28 ≤ op <;> simp [h]
theorem plain_eq {k : Nat} (hk : 60 ≤ k) (x : S24) : block_Plain.f k x.f0 x.f1 x.f2 x.f3 x.f4 x.f5 = some (plainI x) := by
  unfold block_Plain.f plainI okI; rw [isa_ins_eq (by omega)]; simp only [Option.bind_some, ends_eq]
  cases insOk x.f0 x.f1 x.f2 x.f3 x.f4 x.f5 <;> cases endsOp x.f0 <;> simp
theorem may1_eq {k : Nat} (hk : 60 ≤ k) (x : S24) : dag_May_1.f k x.f0 x.f1 x.f2 x.f3 x.f4 x.f5 = some (!plainI x) := by
  unfold dag_May_1.f; rw [plain_eq hk]; rfl
def allPlain (l : List S24) : Bool := l.all plainI
def mayL (l : List S24) : Bool := decide (l.length ≤ 200) && allPlain l
theorem rd_at (l : List S24) (i : Nat) (h : i < l.length) : J24 l (i : Int) = l[i] := by
  unfold J24; rw [Int.toNat_natCast, List.getD_eq_getElem?_getD, List.getElem?_eq_getElem h]; rfl
theorem wrap_at {n : Nat} (h : n ≤ 1000000000000) : wrap64 ((n : Int) + 1) = ((n + 1 : Nat) : Int) := by unfold wrap64; omega
theorem idx_loop (l : List S24) (hl : l.length ≤ 1000000000) : ∀ (d : Nat) (k i : Nat), i + d = l.length → 61 + d ≤ k →
    ∃ r, aI62_88062.l0 k l (l.length : Int) (i : Int) = some r ∧ (decide (r ≥ 0) = !((l.drop i).all plainI))
  | 0, k, i, hi, hk => by
    obtain ⟨k, rfl⟩ : ∃ k', k = k' + 1 := ⟨k - 1, by omega⟩
    refine ⟨-1, ?_, ?_⟩
    · unfold aI62_88062.l0; rw [if_neg (by omega)]
    · rw [List.drop_of_length_le (by omega)]; simp
  | d + 1, k, i, hi, hk => by
    obtain ⟨k, rfl⟩ : ∃ k', k = k' + 1 := ⟨k - 1, by omega⟩
    have hlt : i < l.length := by omega
    unfold aI62_88062.l0; rw [if_pos (by omega), if_pos (by omega), if_pos (by omega), may1_eq (by omega), wrap_at (by omega), rd_at l i hlt, List.drop_eq_getElem_cons hlt]; simp only [Option.bind_some, List.all_cons]
    cases hp : plainI l[i] with
    | false => exact ⟨_, rfl, by simp⟩
    | true =>
      simp only [Bool.not_true, Bool.false_eq_true, if_false, Bool.true_and]; exact idx_loop l hl d k (i + 1) (by omega) (by omega)
theorem may_eq {k : Nat} (l : List S24) (hl : l.length ≤ 1000000000) (hk : 300 ≤ k) : dag_May.f k l = some (mayL l) := by
  unfold dag_May.f mayL
  by_cases h : l.length ≤ 200
  · rw [if_pos (by omega)]; unfold aI62_56062.f aI62_88062.f; obtain ⟨r, h1, h2⟩ := idx_loop l hl l.length k 0 (by omega) (by omega); rw [show ((0 : Nat) : Int) = 0 from rfl] at h1; rw [h1]; simp only [Option.bind_some, h2, List.drop_zero]; unfold allPlain; simp [h]
  · rw [if_neg (by omega)]; simp [h]
def effOp (op : Int) : Bool := op == 16 || (op == 17 || ((decide (24 ≤ op) && decide (op ≤ 27)) || (decide (31 ≤ op) && decide (op ≤ 33))))
def lateOp (op : Int) : Int := if op = 14 ∨ op = 15 ∨ op = 26 then 2 else if op = 20 ∨ op = 24 then 3 else if op = 16 ∨ op = 17 then 4 else 1
theorem eff_eq {k : Nat} (hk : 5 ≤ k) (op : Int) (h0 : 0 ≤ op) (h1 : op ≤ 33) : isa_Effect.f k op = some (effOp op) :=
  at_rounds (isa_Effect.mono op) hk (upto34 (p := fun op => isa_Effect.f 5 op = some (effOp op)) (by decide) op h0 h1)
theorem reff_eq (op : Int) (h0 : 0 ≤ op) (h1 : op ≤ 33) : r3_Effect.f op = some (effOp op) :=
  upto34 (p := fun op => r3_Effect.f op = some (effOp op)) (by decide) op h0 h1
theorem late_eq {k : Nat} (hk : 5 ≤ k) (op : Int) (h0 : 0 ≤ op) (h1 : op ≤ 33) : isa_Late.f k op = some (lateOp op) :=
  at_rounds (isa_Late.mono op) hk (upto34 (p := fun op => isa_Late.f 5 op = some (lateOp op)) (by decide) op h0 h1)
theorem rlate_eq {k : Nat} (hk : 5 ≤ k) (op : Int) (h0 : 0 ≤ op) (h1 : op ≤ 33) : r3_Latency.f k op = some (lateOp op) :=
  at_rounds (r3_Latency.mono op) hk (upto34 (p := fun op => r3_Latency.f 5 op = some (lateOp op)) (by decide) op h0 h1)
def readsL (x : S24) : List Int := (if hasA (formOf x.f0) = true then [x.f2] else []) ++ (if hasB (formOf x.f0) = true then [x.f3] else [])
theorem readsL_len (x : S24) : (readsL x).length ≤ 2 := by
  unfold readsL
  cases hasA (formOf x.f0) <;> cases hasB (formOf x.f0) <;> simp
theorem read_eq {k : Nat} (hk : 12 ≤ k) (x : S24) (h0 : 0 ≤ x.f0) (h1 : x.f0 ≤ 33) : isa_Read.f k x.f0 x.f1 x.f2 x.f3 x.f4 x.f5 = some (readsL x) := by
  obtain ⟨k, rfl⟩ : ∃ k', k = k' + 1 := ⟨k - 1, by omega⟩
  obtain ⟨f0, f1⟩ := formOf_range x.f0 h0 h1; unfold isa_Read.f readsL; rw [shape_eq (by omega) _ h0 h1]; simp only [Option.bind_some]; rw [isa_hasA (by omega) _ f0 f1]; simp only [Option.bind_some]; unfold isa_Read.j0; simp only [isa_hasB _ f0 f1, Option.bind_some]
  cases hasA (formOf x.f0) <;> cases hasB (formOf x.f0) <;> simp
theorem rreads_eq {k : Nat} (hk : 12 ≤ k) (x : S24) (h0 : 0 ≤ x.f0) (h1 : x.f0 ≤ 33) : r3_Reads.f k x.f0 x.f1 x.f2 x.f3 x.f4 x.f5 = some (readsL x) := by
  obtain ⟨k, rfl⟩ : ∃ k', k = k' + 1 := ⟨k - 1, by omega⟩
  obtain ⟨f0, f1⟩ := formOf_range x.f0 h0 h1; unfold r3_Reads.f readsL; rw [form_eq _ h0 h1]; simp only [Option.bind_some, ref_hasA _ f0 f1]; unfold r3_Reads.j0; simp only [ref_hasB _ f0 f1, Option.bind_some]
  cases hasA (formOf x.f0) <;> cases hasB (formOf x.f0) <;> simp
def rdsP (x y : S24) : Bool := hasD (formOf y.f0) && (readsL x).any (fun r => y.f1 == r)
theorem writes_eq {k : Nat} (hk : 12 ≤ k) (y : S24) (r : Int) (h0 : 0 ≤ y.f0) (h1 : y.f0 ≤ 33) : dag_writes.f k y.f0 y.f1 y.f2 y.f3 y.f4 y.f5 r = some (hasD (formOf y.f0) && y.f1 == r) := by
  obtain ⟨f0, f1⟩ := formOf_range y.f0 h0 h1; unfold dag_writes.f; rw [shape_eq (by omega) _ h0 h1]; simp only [Option.bind_some, isa_hasD _ f0 f1]
  cases hasD (formOf y.f0) <;> simp
theorem reads1_eq {k : Nat} (hk : 12 ≤ k) (y : S24) (r : Int) (h0 : 0 ≤ y.f0) (h1 : y.f0 ≤ 33) : dag_reads_1.f k r y.f0 y.f1 y.f2 y.f3 y.f4 y.f5 = some (hasD (formOf y.f0) && y.f1 == r, y.f0, y.f1, y.f2, y.f3, y.f4, y.f5) := by
  unfold dag_reads_1.f; rw [writes_eq hk y r h0 h1]; rfl
theorem index_loop (rs : List Int) (hl : rs.length ≤ 1000) (y : S24) (h0 : 0 ≤ y.f0) (h1 : y.f0 ≤ 33) : ∀ (d : Nat) (k i : Nat), i + d = rs.length → 13 + d ≤ k →
    ∃ r, sI_111.l0 k rs (rs.length : Int) (i : Int) y.f0 y.f1 y.f2 y.f3 y.f4 y.f5 = some (r, y.f0, y.f1, y.f2, y.f3, y.f4, y.f5) ∧ (decide (r ≥ 0) = (hasD (formOf y.f0) && (rs.drop i).any (fun r => y.f1 == r)))
  | 0, k, i, hi, hk => by
    obtain ⟨k, rfl⟩ : ∃ k', k = k' + 1 := ⟨k - 1, by omega⟩
    refine ⟨-1, ?_, ?_⟩
    · unfold sI_111.l0; rw [if_neg (by omega)]
    · rw [List.drop_of_length_le (by omega)]; simp
  | d + 1, k, i, hi, hk => by
    obtain ⟨k, rfl⟩ : ∃ k', k = k' + 1 := ⟨k - 1, by omega⟩
    have hlt : i < rs.length := by omega
    have hr : rd rs (i : Int) = rs[i] := by
      unfold rd; rw [Int.toNat_natCast, List.getD_eq_getElem?_getD, List.getElem?_eq_getElem hlt]; rfl
    unfold sI_111.l0; rw [if_pos (by omega), if_pos (by omega), if_pos (by omega), reads1_eq (by omega) y _ h0 h1, wrap_at (by omega), hr, List.drop_eq_getElem_cons hlt]; simp only [Option.bind_some, List.any_cons]; obtain ⟨r, h2, h3⟩ := index_loop rs hl y h0 h1 d k (i + 1) (by omega) (by omega)
    cases hd : hasD (formOf y.f0) with
    | false =>
      rw [hd] at h3; simp only [Bool.false_and, Bool.false_eq_true, if_false]
      exact ⟨r, h2, by simpa using h3⟩
    | true =>
      rw [hd] at h3
      cases hp : (y.f1 == rs[i]) with
      | false =>
        simp only [Bool.and_false, Bool.false_eq_true, if_false, Bool.true_and, Bool.false_or]
        exact ⟨r, h2, by simpa using h3⟩
      | true => exact ⟨(i : Int), by simp, by simp⟩
theorem reads_eq {k : Nat} (hk : 30 ≤ k) (x y : S24) (hx : 0 ≤ x.f0 ∧ x.f0 ≤ 33) (hy : 0 ≤ y.f0 ∧ y.f0 ≤ 33) : dag_reads.f k x.f0 x.f1 x.f2 x.f3 x.f4 x.f5 y.f0 y.f1 y.f2 y.f3 y.f4 y.f5 = some (rdsP x y) := by
  unfold dag_reads.f rdsP; rw [read_eq (by omega) x hx.1 hx.2]; simp only [Option.bind_some]; unfold sC_111.f sI_111.f; obtain ⟨r, h1, h2⟩ := index_loop (readsL x) (by have := readsL_len x; omega) y hy.1 hy.2 (readsL x).length k 0 (by omega) (by have := readsL_len x; omega); rw [show ((0 : Nat) : Int) = 0 from rfl] at h1; rw [h1]; simp only [Option.bind_some, List.drop_zero] at h2 ⊢; rw [h2]
theorem in_loop (rs : List Int) (hl : rs.length ≤ 1000) (v : Int) : ∀ (d : Nat) (k i : Nat), i + d = rs.length → 1 + d ≤ k →
    ∃ r, r0_In.l0 k rs v (i : Int) = some r ∧ (decide (r ≥ 0) = (rs.drop i).any (fun r => v == r))
  | 0, k, i, hi, hk => by
    obtain ⟨k, rfl⟩ : ∃ k', k = k' + 1 := ⟨k - 1, by omega⟩
    refine ⟨-1, ?_, ?_⟩
    · unfold r0_In.l0; rw [if_neg (by omega)]
    · rw [List.drop_of_length_le (by omega)]; simp
  | d + 1, k, i, hi, hk => by
    obtain ⟨k, rfl⟩ : ∃ k', k = k' + 1 := ⟨k - 1, by omega⟩
    have hlt : i < rs.length := by omega
    have hr : rd rs (i : Int) = rs[i] := by
      unfold rd; rw [Int.toNat_natCast, List.getD_eq_getElem?_getD, List.getElem?_eq_getElem hlt]; rfl
    unfold r0_In.l0; rw [if_pos (by omega), if_pos (by omega), wrap_at (by omega), hr, List.drop_eq_getElem_cons hlt]; simp only [List.any_cons]
    by_cases hp : rs[i] = v
    · rw [if_pos hp]; exact ⟨_, rfl, by simp [hp]⟩
    · rw [if_neg hp]; obtain ⟨r, h2, h3⟩ := in_loop rs hl v d k (i + 1) (by omega) (by omega); refine ⟨r, h2, ?_⟩; rw [h3, show (v == rs[i]) = false from by simpa using fun e => hp e.symm]; rfl
theorem in_eq {k : Nat} (hk : 5 ≤ k) (x : S24) (v : Int) : ∃ r, r0_In.f k (readsL x) v = some r ∧ (decide (r ≥ 0) = (readsL x).any (fun r => v == r)) := by
  unfold r0_In.f; have := in_loop (readsL x) (by have := readsL_len x; omega) v (readsL x).length k 0 (by omega) (by have := readsL_len x; omega); simpa using this
def dist (x y : S24) : Int :=
  let d := if effOp x.f0 = true ∧ effOp y.f0 = true then 1 else if rdsP x y = true then 0 else -1
  if rdsP y x = true ∨ (hasD (formOf y.f0) = true ∧ hasD (formOf x.f0) = true ∧ x.f1 = y.f1) then mx d (lateOp x.f0) else d
theorem dist_eq {k : Nat} (hk : 40 ≤ k) (x y : S24) (hx : 0 ≤ x.f0 ∧ x.f0 ≤ 33) (hy : 0 ≤ y.f0 ∧ y.f0 ≤ 33) : dag_dist.f k x.f0 x.f1 x.f2 x.f3 x.f4 x.f5 y.f0 y.f1 y.f2 y.f3 y.f4 y.f5 = some (dist x y) := by
  obtain ⟨k, rfl⟩ : ∃ k', k = k' + 4 := ⟨k - 4, by omega⟩
  obtain ⟨f0, f1⟩ := formOf_range y.f0 hy.1 hy.2; unfold dag_dist.f dag_dist.j0 dag_dist.j1 dag_dist.j2 dag_dist.j3; rw [reads_eq (by omega) x y hx hy]; simp only [Option.bind_some]; rw [eff_eq (by omega) _ hx.1 hx.2, eff_eq (by omega) _ hy.1 hy.2, reads_eq (by omega) y x hy hx, shape_eq (by omega) _ hy.1 hy.2]; simp only [Option.bind_some, isa_hasD _ f0 f1]; rw [writes_eq (by omega) x _ hx.1 hx.2, late_eq (by omega) _ hx.1 hx.2]; unfold dist
  cases rdsP x y <;> cases effOp x.f0 <;> cases effOp y.f0 <;> cases rdsP y x <;> cases hasD (formOf y.f0) <;> cases hasD (formOf x.f0) <;> by_cases h : x.f1 = y.f1 <;> simp [h]
def wOf (x : S24) : Int := if hasD (formOf x.f0) = true then x.f1 else -1
theorem rwrites_eq (x : S24) (h0 : 0 ≤ x.f0) (h1 : x.f0 ≤ 33) : r3_Writes.f x.f0 x.f1 x.f2 x.f3 x.f4 x.f5 = some (wOf x) := by
  obtain ⟨f0, f1⟩ := formOf_range x.f0 h0 h1; unfold r3_Writes.f wOf; rw [form_eq _ h0 h1]; simp only [Option.bind_some, ref_hasD _ f0 f1]
  cases hasD (formOf x.f0) <;> simp
theorem okI_op {x : S24} (h : okI x = true) : 0 ≤ x.f0 ∧ x.f0 ≤ 33 := (ins_parts h).1
theorem okI_d {x : S24} (h : okI x = true) : 0 ≤ x.f1 := (reg_parts (ins_parts h).2.1).1
def edgesSeg (l : List S24) (i : Nat) : Nat → Nat → List S100
  | _, 0 => []
  | j, d + 1 => (if 0 ≤ dist (J24 l i) (J24 l j) then [(⟨(i : Int), (j : Int), dist (J24 l i) (J24 l j)⟩ : S100)] else []) ++ edgesSeg l i (j + 1) d
def edgesFrom (l : List S24) (i : Nat) : List S100 := edgesSeg l i (i + 1) (l.length - (i + 1))
def edgesUp (l : List S24) : Nat → Nat → List S100
  | _, 0 => []
  | i, d + 1 => edgesFrom l i ++ edgesUp l (i + 1) d
theorem edgesUp_succ (l : List S24) (i d : Nat) : edgesUp l i (d + 1) = edgesFrom l i ++ edgesUp l (i + 1) d := rfl
def edges (l : List S24) : List S100 := edgesUp l 0 l.length
theorem edgesSeg_len (l : List S24) (i : Nat) : ∀ (d j : Nat), (edgesSeg l i j d).length ≤ d
  | 0, _ => by simp [edgesSeg]
  | d + 1, j => by
    have := edgesSeg_len l i d (j + 1); unfold edgesSeg; split <;> simp <;> omega
def okL (l : List S24) : Prop := ∀ i : Nat, i < l.length → okI (J24 l i) = true
theorem rd_drop (l : List S24) (i j : Nat) (h : i + j < l.length) : J24 (l.drop i) (j : Int) = J24 l ((i + j : Nat) : Int) := by
  rw [rd_at _ _ (by simp; omega), rd_at _ _ h]; simp
theorem own_l1 (l : List S24) (hl : l.length ≤ 1000) (ho : okL l) (i : Nat) (hi : i < l.length) : ∀ (d k : Nat) (acc : List S100) (j : Nat), 50 ≤ k → i + 1 + j + d = l.length → acc.length + d ≤ 1000000000 →
    dag_Edges.l1 (k + d + 1) l acc (i : Int) l (l.length : Int) (i : Int) (l.drop (i + 1)) ((l.drop (i + 1)).length : Int) (j : Int) (J24 l i).f0 (J24 l i).f1 (J24 l i).f2 (J24 l i).f3 (J24 l i).f4 (J24 l i).f5 = dag_Edges.l0 k l (acc ++ edgesSeg l i (i + 1 + j) d) l (l.length : Int) ((i + 1 : Nat) : Int)
  | 0, k, acc, j, hk, hj, hb => by
    unfold dag_Edges.l1; rw [if_neg (by rw [List.length_drop]; omega), wrap_at (by omega)]
    simp [edgesSeg]
  | d + 1, k, acc, j, hk, hj, hb => by
    have hlt : i + 1 + j < l.length := by omega
    rw [show k + (d + 1) + 1 = (k + d + 1) + 1 by omega]; unfold dag_Edges.l1; rw [if_pos (by rw [List.length_drop]; omega), if_pos (by omega), if_pos (by rw [List.length_drop]; omega), rd_drop l (i + 1) j (by omega), dist_eq (by omega) _ _ (okI_op (ho i hi)) (okI_op (ho _ hlt)), wrap_at (n := j) (by omega), wrap_at (n := i) (by omega)]; simp only [Option.bind_some]; have e1 : wrap64 (((i + 1 : Nat) : Int) + (j : Int)) = ((i + 1 + j : Nat) : Int) := by unfold wrap64; omega
    rw [e1]; unfold edgesSeg
    by_cases h : 0 ≤ dist (J24 l i) (J24 l ((i + 1 + j : Nat) : Int))
    · rw [if_pos h, if_pos (by omega), if_pos h, own_l1 l hl ho i hi d k _ (j + 1) hk (by omega) (by simp; omega)]; simp [Nat.add_assoc]
    · rw [if_neg h, if_neg h, own_l1 l hl ho i hi d k _ (j + 1) hk (by omega) (by omega)]; simp [Nat.add_assoc]
theorem own_l0 (l : List S24) (hl : l.length ≤ 1000) (ho : okL l) : ∀ (d k : Nat) (acc : List S100) (i : Nat), i + d = l.length → 60 + d * (l.length + 2) ≤ k → acc.length + d * l.length ≤ 100000000 →
    dag_Edges.l0 k l acc l (l.length : Int) (i : Int) = some (acc ++ edgesUp l i d)
  | 0, k, acc, i, hi, hk, hb => by
    obtain ⟨k, rfl⟩ : ∃ k', k = k' + 1 := ⟨k - 1, by omega⟩
    unfold dag_Edges.l0; rw [if_neg (by omega)]
    simp [edgesUp]
  | d + 1, k, acc, i, hi, hk, hb => by
    have e1 : (d + 1) * (l.length + 2) = d * (l.length + 2) + (l.length + 2) := Nat.succ_mul _ _; have e2 : (d + 1) * l.length = d * l.length + l.length := Nat.succ_mul _ _; obtain ⟨k, rfl⟩ : ∃ k', k = (k' + (l.length - (i + 1)) + 1) + 1 := ⟨k - (l.length - (i + 1)) - 2, by omega⟩
    unfold dag_Edges.l0; rw [if_pos (by omega), if_pos (by omega), if_pos (by omega), wrap_at (by omega), if_pos (by omega), if_pos (by omega)]; simp only [Option.bind_some, Int.toNat_natCast]; have h4 := own_l1 l hl ho i (by omega) (l.length - (i + 1)) k acc 0 (by omega) (by omega) (by omega); rw [show ((0 : Nat) : Int) = 0 from rfl] at h4; rw [h4]; have h3 := edgesSeg_len l i (l.length - (i + 1)) (i + 1); rw [own_l0 l hl ho d k _ (i + 1) (by omega) (by omega) (by simp; omega)]; rw [edgesUp_succ]; unfold edgesFrom; simp
theorem own_edges {k : Nat} (l : List S24) (hl : l.length ≤ 200) (ho : okL l) (hk : 50000 ≤ k) : dag_Edges.f k l = some (edges l) := by
  have hm : l.length * (l.length + 2) ≤ 200 * 202 := Nat.mul_le_mul hl (by omega); have hm2 : l.length * l.length ≤ 200 * 200 := Nat.mul_le_mul hl hl; unfold dag_Edges.f edges; rw [show (0 : Int) = ((0 : Nat) : Int) from rfl, own_l0 l (by omega) ho l.length k [] 0 (by omega) (by omega) (by simp; omega)]; simp
end
end Go.Proofs.YtibfkkjkahpobaaGreat.PDag
