import Derived.Test.YtibfkkjkahpobaaHd15
import Derived.Test.YtibfkkjkahpobaaHd17
set_option linter.unusedVariables false
set_option linter.unusedSimpArgs false
set_option maxHeartbeats 8000000
set_option maxRecDepth 100000
namespace Go.Proofs.Ytibfkkjkahpobaa.PDag
open Go.RowKit Go.Proofs.YtibfkkjkahpobaaW.PrintWords Go.Proofs.YtibfkkjkahpobaaW.PrintLast Go.Proofs.YtibfkkjkahpobaaW.PrintMore
attribute [local go_sem] max2_int min2_int max_two min_two max_three min_three max_four min_four
mutual
def isa_imm.j0 : Nat → Int → Bool → Int → Int → Int → Int → Int → ByteArray → Option (Bool)
  | 0, _, _, _, _, _, _, _, _ => none
  | k + 1, x1, x5, x104a, x104b, x104c, x104d, x104e, x104f => if x5 = true then (if x104e = 0 then ((isa_Name2.f k x104f).bind fun t105 => (some t105)) else (some false)) else ((isa_Target.f x1).bind fun t106 => (if t106 = true then (if x104e ≥ 0 then (some (decide (x104e < 1024))) else (some false)) else (if x1 = 4 then (if x104f.toList = ([] : List UInt8) then (isa_imm.j1 k x1 false x104a x104b x104c x104d x104e x104f) else ((isa_Name2.f k x104f).bind fun t107 => (isa_imm.j1 k x1 (!t107) x104a x104b x104c x104d x104e x104f))) else (isa_imm.j1 k x1 false x104a x104b x104c x104d x104e x104f))))
def isa_imm.j1 : Nat → Int → Bool → Int → Int → Int → Int → Int → ByteArray → Option (Bool)
  | 0, _, _, _, _, _, _, _, _ => none
  | k + 1, x1, x32, x104a, x104b, x104c, x104d, x104e, x104f => if x32 = true then (isa_imm.j2 k x1 x32 x104a x104b x104c x104d x104e x104f) else (if x1 = 4 then (isa_imm.j2 k x1 false x104a x104b x104c x104d x104e x104f) else (isa_imm.j2 k x1 (x104f.toList != ([] : List UInt8)) x104a x104b x104c x104d x104e x104f))
def isa_imm.j2 : Nat → Int → Bool → Int → Int → Int → Int → Int → ByteArray → Option (Bool)
  | 0, _, _, _, _, _, _, _, _ => none
  | k + 1, x1, x32, x104a, x104b, x104c, x104d, x104e, x104f => if x32 = true then (some false) else ((isa_Bits.f k x1).bind fun t108 => (if t108 = 0 then (some (x104e == 0)) else ((isa_Bits.f k x1).bind fun t109 => ((word_Within.f x104e t108).bind fun t110 => (some t110)))))
end
def isa_imm.f (k : Nat) (a0_0 : Int) (a0_1 : Int) (a0_2 : Int) (a0_3 : Int) (a0_4 : Int) (a0_5 : ByteArray) (a1 : Int) : Option (Bool) := (isa_Target.f a1).bind fun t104 => (if t104 = true then (isa_imm.j0 k a1 (a0_5.toList != ([] : List UInt8)) a0_0 a0_1 a0_2 a0_3 a0_4 a0_5) else (isa_imm.j0 k a1 false a0_0 a0_1 a0_2 a0_3 a0_4 a0_5))
theorem isa_imm.calls (k : Nat) (a0_0 : Int) (a0_1 : Int) (a0_2 : Int) (a0_3 : Int) (a0_4 : Int) (a0_5 : ByteArray) (a1 : Int) (r : Bool) (w : World) (h : isa_imm.f k a0_0 a0_1 a0_2 a0_3 a0_4 a0_5 a1 = some r) :
    Calls Try.prog 102 #[.agg #[.int .i64 a0_0, .int .i64 a0_1, .int .i64 a0_2, .int .i64 a0_3, .int .i64 a0_4, .string a0_5], .int .i64 a1] w fun e w' => e = .returned (.bool r) ∧ Below w.heap.size w w' := by
 have hu24 := Try.underlying24; have HB := aM_ (Below.refl w.heap.size w); have H : ((isa_Target.f a1).bind fun t104 => (if t104 = true then (isa_imm.j0 k a1 (a0_5.toList != ([] : List UInt8)) a0_0 a0_1 a0_2 a0_3 a0_4 a0_5) else (isa_imm.j0 k a1 false a0_0 a0_1 a0_2 a0_3 a0_4 a0_5))) = some r := h; clear h; have HC3 := aM_ H; clear H; go_enter Try.func102, Try.ntmps102
 go_upto_region 1 with (first | ((with_reducible refine gate_dst (N := 2) rfl ?_); refine bX_ (N := 2) (cs := #[.int .i64 a0_0, .int .i64 a0_1, .int .i64 a0_2, .int .i64 a0_3, .int .i64 a0_4, .string a0_5]) (t := 24) ?_; intro gb103 hg w4 hbox hb; replace BK103 := aM_ (hbox); replace GW103 := aM_ (gE_ hg (bl_ HB)); replace GE103 := aM_ (gE_ hg (bl_ HB)); replace HB := aM_ (bT_ (bl_ HB) hb); clear hb hbox hg))
 repeat (go_quiet (first | ((with_reducible refine gate_dst (N := 2) rfl ?_); refine bX_ (N := 2) (cs := #[.int .i64 a0_0, .int .i64 a0_1, .int .i64 a0_2, .int .i64 a0_3, .int .i64 a0_4, .string a0_5]) (t := 24) ?_; intro gb103 hg w4 hbox hb; replace BK103 := aM_ (hbox); replace GW103 := aM_ (gE_ hg (bl_ HB)); replace GE103 := aM_ (gE_ hg (bl_ HB)); replace HB := aM_ (bT_ (bl_ HB) hb); clear hb hbox hg)); go_upto_region 1 with (first | ((with_reducible refine gate_dst (N := 2) rfl ?_); refine bX_ (N := 2) (cs := #[.int .i64 a0_0, .int .i64 a0_1, .int .i64 a0_2, .int .i64 a0_3, .int .i64 a0_4, .string a0_5]) (t := 24) ?_; intro gb103 hg w4 hbox hb; replace BK103 := aM_ (hbox); replace GW103 := aM_ (gE_ hg (bl_ HB)); replace GE103 := aM_ (gE_ hg (bl_ HB)); replace HB := aM_ (bT_ (bl_ HB) hb); clear hb hbox hg)))
 (try simp only [Act.put, List.setIfInBounds_toArray, List.set_cons_zero, List.set_cons_succ])
 go_cut [5] (fun v5 wc => ∃ (kq : Nat) (x5_2 : Bool), v5 = .bool x5_2 ∧ As_ (isa_imm.j0 kq a1 x5_2 a0_0 a0_1 a0_2 a0_3 a0_4 a0_5 = some r) ∧ As_ (kq ≤ k) ∧ As_ (wc.heap[gb103]? = some (.cells #[.int .i64 a0_0, .int .i64 a0_1, .int .i64 a0_2, .int .i64 a0_3, .int .i64 a0_4, .string a0_5] 24 (0, 0))) ∧ As_ (Below w.heap.size w wc))
 case first =>
  have H := HC3.out; clear HC3; obtain ⟨t104, A5, H⟩ := oB_ H
  by_cases c6 : t104 = true
  ·subst c6; rw [if_pos rfl] at H; replace H := aM_ H
   go_wp2_with (first | (go_at_call 117; (with_reducible refine (isa_Target.calls a1 true _ A5.out).mono ?_); rintro e w' ⟨rfl, ⟨nd, rfl⟩⟩; (try first | exact ⟨rfl, _, dN_⟩ | exact ⟨rfl, _, dT_⟩); obtain ⟨hcz7_0, hcz7_1, hcz7_2, hcz7_3, hcz7_4, hcz7_5⟩ := cl6_ BK103.out; obtain ⟨hfz7_0, hfz7_1, hfz7_2, hfz7_3, hfz7_4, hfz7_5⟩ := fz6_ BK103.out))
   repeat (go_quiet (first | (go_at_call 117; (with_reducible refine (isa_Target.calls a1 true _ A5.out).mono ?_); rintro e w' ⟨rfl, ⟨nd, rfl⟩⟩; (try first | exact ⟨rfl, _, dN_⟩ | exact ⟨rfl, _, dT_⟩); obtain ⟨hcz7_0, hcz7_1, hcz7_2, hcz7_3, hcz7_4, hcz7_5⟩ := cl6_ BK103.out; obtain ⟨hfz7_0, hfz7_1, hfz7_2, hfz7_3, hfz7_4, hfz7_5⟩ := fz6_ BK103.out)); try go_wp2_with (first | (go_at_call 117; (with_reducible refine (isa_Target.calls a1 true _ A5.out).mono ?_); rintro e w' ⟨rfl, ⟨nd, rfl⟩⟩; (try first | exact ⟨rfl, _, dN_⟩ | exact ⟨rfl, _, dT_⟩); obtain ⟨hcz7_0, hcz7_1, hcz7_2, hcz7_3, hcz7_4, hcz7_5⟩ := cl6_ BK103.out; obtain ⟨hfz7_0, hfz7_1, hfz7_2, hfz7_3, hfz7_4, hfz7_5⟩ := fz6_ BK103.out)))
   go_meet
   case rel => exact ⟨_, ((a0_5.toList != ([] : List UInt8))), eQ_, H, ⟨by first | omega | exact Nat.le_refl _⟩, ⟨rB_ BK103⟩, ⟨bs_ HB GE103⟩⟩
  replace c6 := eF_ c6; subst c6; rw [if_neg Bool.false_ne_true] at H; replace H := aM_ H
  go_wp2_with (first | (go_at_call 117; (with_reducible refine (isa_Target.calls a1 false _ A5.out).mono ?_); rintro e w' ⟨rfl, ⟨nd, rfl⟩⟩; (try first | exact ⟨rfl, _, dN_⟩ | exact ⟨rfl, _, dT_⟩)))
  repeat (go_quiet (first | (go_at_call 117; (with_reducible refine (isa_Target.calls a1 false _ A5.out).mono ?_); rintro e w' ⟨rfl, ⟨nd, rfl⟩⟩; (try first | exact ⟨rfl, _, dN_⟩ | exact ⟨rfl, _, dT_⟩))); try go_wp2_with (first | (go_at_call 117; (with_reducible refine (isa_Target.calls a1 false _ A5.out).mono ?_); rintro e w' ⟨rfl, ⟨nd, rfl⟩⟩; (try first | exact ⟨rfl, _, dN_⟩ | exact ⟨rfl, _, dT_⟩))))
  go_meet
  case rel => exact ⟨_, (false), eQ_, H, ⟨by first | omega | exact Nat.le_refl _⟩, ⟨rB_ BK103⟩, ⟨bs_ HB GE103⟩⟩
 case rest =>
  clear HC3; obtain ⟨kq, x5_2, rfl, HA, HJ2, BK103, HB⟩ := hcut
  cases kq with
  | zero => exact absurd HA.out (by simp [isa_imm.j0])
  | succ kj2 =>
   have H := HA.out; clear HA; simp only [isa_imm.j0] at H
   by_cases c8 : x5_2 = true
   ·subst c8; rw [if_pos rfl] at H
    by_cases c9 : a0_4 = 0
    ·rw [if_pos c9] at H; have c9b0 := bH_ c9; have c9b1 := bF_ c9; clear c9; obtain ⟨t105, A10, H⟩ := oB_ H; obtain rfl := oI_ H; obtain ⟨hcz11_0, hcz11_1, hcz11_2, hcz11_3, hcz11_4, hcz11_5⟩ := cl6_ BK103.out; obtain ⟨hfz11_0, hfz11_1, hfz11_2, hfz11_3, hfz11_4, hfz11_5⟩ := fz6_ BK103.out
     go_wp2_with (first | (go_at_call 111; (with_reducible refine (isa_Name2.calls kj2 a0_5 t105 _ A10.out).mono ?_); rintro e w' ⟨rfl, ⟨nd, rfl⟩⟩; (try first | exact ⟨rfl, _, dN_⟩ | exact ⟨rfl, _, dT_⟩)))
     repeat (go_quiet (first | (go_at_call 111; (with_reducible refine (isa_Name2.calls kj2 a0_5 t105 _ A10.out).mono ?_); rintro e w' ⟨rfl, ⟨nd, rfl⟩⟩; (try first | exact ⟨rfl, _, dN_⟩ | exact ⟨rfl, _, dT_⟩))); try go_wp2_with (first | (go_at_call 111; (with_reducible refine (isa_Name2.calls kj2 a0_5 t105 _ A10.out).mono ?_); rintro e w' ⟨rfl, ⟨nd, rfl⟩⟩; (try first | exact ⟨rfl, _, dN_⟩ | exact ⟨rfl, _, dT_⟩))))
     go_ret; exact ⟨eR_, bs_ HB GE103⟩
    rw [if_neg c9] at H; have c9b0 := bE_ c9; have c9b1 := bG_ c9; obtain rfl := oI_ H; obtain ⟨hcz12_0, hcz12_1, hcz12_2, hcz12_3, hcz12_4, hcz12_5⟩ := cl6_ BK103.out; obtain ⟨hfz12_0, hfz12_1, hfz12_2, hfz12_3, hfz12_4, hfz12_5⟩ := fz6_ BK103.out; go_wp2
    repeat (go_quiet (fail); try go_wp2)
    go_ret; exact ⟨eR_, bs_ HB GE103⟩
   replace c8 := eF_ c8; subst c8; rw [if_neg Bool.false_ne_true] at H; obtain ⟨t106, A13, H⟩ := oB_ H
   by_cases c14 : t106 = true
   ·subst c14; rw [if_pos rfl] at H
    by_cases c15 : a0_4 ≥ 0
    ·rw [if_pos c15] at H; have c15b0 := dE_ c15; clear c15; obtain rfl := oI_ H
     go_wp2_with (first | (go_at_call 117; (with_reducible refine (isa_Target.calls a1 true _ A13.out).mono ?_); rintro e w' ⟨rfl, ⟨nd, rfl⟩⟩; (try first | exact ⟨rfl, _, dN_⟩ | exact ⟨rfl, _, dT_⟩); obtain ⟨hcz16_0, hcz16_1, hcz16_2, hcz16_3, hcz16_4, hcz16_5⟩ := cl6_ BK103.out; obtain ⟨hfz16_0, hfz16_1, hfz16_2, hfz16_3, hfz16_4, hfz16_5⟩ := fz6_ BK103.out))
     repeat (go_quiet (first | (go_at_call 117; (with_reducible refine (isa_Target.calls a1 true _ A13.out).mono ?_); rintro e w' ⟨rfl, ⟨nd, rfl⟩⟩; (try first | exact ⟨rfl, _, dN_⟩ | exact ⟨rfl, _, dT_⟩); obtain ⟨hcz16_0, hcz16_1, hcz16_2, hcz16_3, hcz16_4, hcz16_5⟩ := cl6_ BK103.out; obtain ⟨hfz16_0, hfz16_1, hfz16_2, hfz16_3, hfz16_4, hfz16_5⟩ := fz6_ BK103.out)); try go_wp2_with (first | (go_at_call 117; (with_reducible refine (isa_Target.calls a1 true _ A13.out).mono ?_); rintro e w' ⟨rfl, ⟨nd, rfl⟩⟩; (try first | exact ⟨rfl, _, dN_⟩ | exact ⟨rfl, _, dT_⟩); obtain ⟨hcz16_0, hcz16_1, hcz16_2, hcz16_3, hcz16_4, hcz16_5⟩ := cl6_ BK103.out; obtain ⟨hfz16_0, hfz16_1, hfz16_2, hfz16_3, hfz16_4, hfz16_5⟩ := fz6_ BK103.out)))
     go_ret; exact ⟨eR_, bs_ HB GE103⟩
    rw [if_neg c15] at H; have c15b0 := dF_ c15; clear c15; obtain rfl := oI_ H
    go_wp2_with (first | (go_at_call 117; (with_reducible refine (isa_Target.calls a1 true _ A13.out).mono ?_); rintro e w' ⟨rfl, ⟨nd, rfl⟩⟩; (try first | exact ⟨rfl, _, dN_⟩ | exact ⟨rfl, _, dT_⟩); obtain ⟨hcz17_0, hcz17_1, hcz17_2, hcz17_3, hcz17_4, hcz17_5⟩ := cl6_ BK103.out; obtain ⟨hfz17_0, hfz17_1, hfz17_2, hfz17_3, hfz17_4, hfz17_5⟩ := fz6_ BK103.out))
    repeat (go_quiet (first | (go_at_call 117; (with_reducible refine (isa_Target.calls a1 true _ A13.out).mono ?_); rintro e w' ⟨rfl, ⟨nd, rfl⟩⟩; (try first | exact ⟨rfl, _, dN_⟩ | exact ⟨rfl, _, dT_⟩); obtain ⟨hcz17_0, hcz17_1, hcz17_2, hcz17_3, hcz17_4, hcz17_5⟩ := cl6_ BK103.out; obtain ⟨hfz17_0, hfz17_1, hfz17_2, hfz17_3, hfz17_4, hfz17_5⟩ := fz6_ BK103.out)); try go_wp2_with (first | (go_at_call 117; (with_reducible refine (isa_Target.calls a1 true _ A13.out).mono ?_); rintro e w' ⟨rfl, ⟨nd, rfl⟩⟩; (try first | exact ⟨rfl, _, dN_⟩ | exact ⟨rfl, _, dT_⟩); obtain ⟨hcz17_0, hcz17_1, hcz17_2, hcz17_3, hcz17_4, hcz17_5⟩ := cl6_ BK103.out; obtain ⟨hfz17_0, hfz17_1, hfz17_2, hfz17_3, hfz17_4, hfz17_5⟩ := fz6_ BK103.out)))
    go_ret; exact ⟨eR_, bs_ HB GE103⟩
   replace c14 := eF_ c14; subst c14; rw [if_neg Bool.false_ne_true] at H; have HC18 := aM_ H; clear H
   go_upto_region 5 with (first | (go_at_call 117; (with_reducible refine (isa_Target.calls a1 false _ A13.out).mono ?_); rintro e w' ⟨rfl, ⟨nd, rfl⟩⟩; (try first | exact ⟨rfl, _, dN_⟩ | exact ⟨rfl, _, dT_⟩)))
   repeat (go_quiet (first | (go_at_call 117; (with_reducible refine (isa_Target.calls a1 false _ A13.out).mono ?_); rintro e w' ⟨rfl, ⟨nd, rfl⟩⟩; (try first | exact ⟨rfl, _, dN_⟩ | exact ⟨rfl, _, dT_⟩))); go_upto_region 5 with (first | (go_at_call 117; (with_reducible refine (isa_Target.calls a1 false _ A13.out).mono ?_); rintro e w' ⟨rfl, ⟨nd, rfl⟩⟩; (try first | exact ⟨rfl, _, dN_⟩ | exact ⟨rfl, _, dT_⟩))))
   (try simp only [Act.put, List.setIfInBounds_toArray, List.set_cons_zero, List.set_cons_succ])
   go_cut [32] (fun v32 wc => ∃ (kq : Nat) (x32_17 : Bool), v32 = .bool x32_17 ∧ As_ (isa_imm.j1 kq a1 x32_17 a0_0 a0_1 a0_2 a0_3 a0_4 a0_5 = some r) ∧ As_ (kq ≤ kj2) ∧ As_ (wc.heap[gb103]? = some (.cells #[.int .i64 a0_0, .int .i64 a0_1, .int .i64 a0_2, .int .i64 a0_3, .int .i64 a0_4, .string a0_5] 24 (0, 0))) ∧ As_ (Below w.heap.size w wc))
   case first =>
    have H := HC18.out; clear HC18
    by_cases c19 : a1 = 4
    ·rw [if_pos c19] at H; have c19b0 := bH_ c19; have c19b1 := bF_ c19; clear c19
     (first | rw [c19b0] | (simp only [i64_w, i32_w]; rw [c19b0]) | skip)
     by_cases c20 : a0_5.toList = ([] : List UInt8)
     ·rw [if_pos c20] at H; have c20b0 := bH_ c20; have c20b1 := bF_ c20; clear c20; replace H := aM_ H; obtain ⟨hcz21_0, hcz21_1, hcz21_2, hcz21_3, hcz21_4, hcz21_5⟩ := cl6_ BK103.out; obtain ⟨hfz21_0, hfz21_1, hfz21_2, hfz21_3, hfz21_4, hfz21_5⟩ := fz6_ BK103.out; go_wp2
      repeat (go_quiet (fail); try go_wp2)
      go_meet
      case rel => exact ⟨_, (false), eQ_, H, ⟨by have := HJ2.out; first | omega | exact Nat.le_refl _⟩, ⟨rB_ BK103⟩, ⟨bs_ HB GE103⟩⟩
     rw [if_neg c20] at H; have c20b0 := bE_ c20; have c20b1 := bG_ c20; obtain ⟨t107, A22, H⟩ := oB_ H; replace H := aM_ H; obtain ⟨hcz23_0, hcz23_1, hcz23_2, hcz23_3, hcz23_4, hcz23_5⟩ := cl6_ BK103.out; obtain ⟨hfz23_0, hfz23_1, hfz23_2, hfz23_3, hfz23_4, hfz23_5⟩ := fz6_ BK103.out
     go_wp2_with (first | (go_at_call 111; (with_reducible refine (isa_Name2.calls kj2 a0_5 t107 _ A22.out).mono ?_); rintro e w' ⟨rfl, ⟨nd, rfl⟩⟩; (try first | exact ⟨rfl, _, dN_⟩ | exact ⟨rfl, _, dT_⟩)))
     repeat (go_quiet (first | (go_at_call 111; (with_reducible refine (isa_Name2.calls kj2 a0_5 t107 _ A22.out).mono ?_); rintro e w' ⟨rfl, ⟨nd, rfl⟩⟩; (try first | exact ⟨rfl, _, dN_⟩ | exact ⟨rfl, _, dT_⟩))); try go_wp2_with (first | (go_at_call 111; (with_reducible refine (isa_Name2.calls kj2 a0_5 t107 _ A22.out).mono ?_); rintro e w' ⟨rfl, ⟨nd, rfl⟩⟩; (try first | exact ⟨rfl, _, dN_⟩ | exact ⟨rfl, _, dT_⟩))))
     go_meet
     case rel => exact ⟨_, (!t107), eQ_, H, ⟨by have := HJ2.out; first | omega | exact Nat.le_refl _⟩, ⟨rB_ BK103⟩, ⟨bs_ HB GE103⟩⟩
    rw [if_neg c19] at H; have c19b0 := bE_ c19; have c19b1 := bG_ c19
    (first | rw [c19b0] | (simp only [i64_w, i32_w]; rw [c19b0]) | skip)
    replace H := aM_ H; go_wp2
    repeat (go_quiet (fail); try go_wp2)
    go_meet
    case rel => exact ⟨_, (false), eQ_, H, ⟨by have := HJ2.out; first | omega | exact Nat.le_refl _⟩, ⟨rB_ BK103⟩, ⟨bs_ HB GE103⟩⟩
   case rest =>
    clear HC18; obtain ⟨kq, x32_17, rfl, HA, HJ17, BK103, HB⟩ := hcut
    cases kq with
    | zero => exact absurd HA.out (by simp [isa_imm.j1])
    | succ kj17 =>
     have H := HA.out; clear HA; simp only [isa_imm.j1] at H; have HC24 := aM_ H; clear H
     go_upto_if 32 with (fail)
     repeat (go_quiet (fail); go_upto_if 32 with (fail))
     go_cut [32] (fun v32 wc => ∃ (kq : Nat) (x32_23 : Bool), v32 = .bool x32_23 ∧ As_ (isa_imm.j2 kq a1 x32_23 a0_0 a0_1 a0_2 a0_3 a0_4 a0_5 = some r) ∧ As_ (kq ≤ kj17) ∧ As_ (wc.heap[gb103]? = some (.cells #[.int .i64 a0_0, .int .i64 a0_1, .int .i64 a0_2, .int .i64 a0_3, .int .i64 a0_4, .string a0_5] 24 (0, 0))) ∧ As_ (Below w.heap.size w wc))
     case first =>
      have H := HC24.out; clear HC24
      by_cases c25 : x32_17 = true
      ·subst c25; rw [if_pos rfl] at H; replace H := aM_ H; go_wp2
       repeat (go_quiet (fail); try go_wp2)
       go_meet
       case rel => exact ⟨_, (true), eQ_, H, ⟨by have := HJ2.out; have := HJ17.out; first | omega | exact Nat.le_refl _⟩, ⟨rB_ BK103⟩, ⟨bs_ HB GE103⟩⟩
      replace c25 := eF_ c25; subst c25; rw [if_neg Bool.false_ne_true] at H
      by_cases c26 : a1 = 4
      ·rw [if_pos c26] at H; have c26b0 := bH_ c26; have c26b1 := bF_ c26; clear c26
       (first | rw [c26b0] | (simp only [i64_w, i32_w]; rw [c26b0]) | skip)
       replace H := aM_ H; go_wp2
       repeat (go_quiet (fail); try go_wp2)
       go_meet
       case rel => exact ⟨_, (false), eQ_, H, ⟨by have := HJ2.out; have := HJ17.out; first | omega | exact Nat.le_refl _⟩, ⟨rB_ BK103⟩, ⟨bs_ HB GE103⟩⟩
      rw [if_neg c26] at H; have c26b0 := bE_ c26; have c26b1 := bG_ c26
      (first | rw [c26b0] | (simp only [i64_w, i32_w]; rw [c26b0]) | skip)
      replace H := aM_ H; obtain ⟨hcz27_0, hcz27_1, hcz27_2, hcz27_3, hcz27_4, hcz27_5⟩ := cl6_ BK103.out; obtain ⟨hfz27_0, hfz27_1, hfz27_2, hfz27_3, hfz27_4, hfz27_5⟩ := fz6_ BK103.out; go_wp2
      repeat (go_quiet (fail); try go_wp2)
      go_meet
      case rel => exact ⟨_, ((a0_5.toList != ([] : List UInt8))), eQ_, H, ⟨by have := HJ2.out; have := HJ17.out; first | omega | exact Nat.le_refl _⟩, ⟨rB_ BK103⟩, ⟨bs_ HB GE103⟩⟩
     case rest =>
      clear HC24; obtain ⟨kq, x32_23, rfl, HA, HJ23, BK103, HB⟩ := hcut
      cases kq with
      | zero => exact absurd HA.out (by simp [isa_imm.j2])
      | succ kj23 =>
       have H := HA.out; clear HA; simp only [isa_imm.j2] at H
       by_cases c28 : x32_23 = true
       ·subst c28; rw [if_pos rfl] at H; obtain rfl := oI_ H; go_wp2
        repeat (go_quiet (fail); try go_wp2)
        go_ret; exact ⟨eR_, bs_ HB GE103⟩
       replace c28 := eF_ c28; subst c28; rw [if_neg Bool.false_ne_true] at H; obtain ⟨t108, A29, H⟩ := oB_ H
       by_cases c30 : t108 = 0
       ·rw [if_pos c30] at H; have c30b0 := bH_ c30; have c30b1 := bF_ c30; clear c30; obtain rfl := oI_ H
        go_wp2_with (first | (go_at_call 118; (with_reducible refine (isa_Bits.calls kj23 a1 t108 _ A29.out).mono ?_); rintro e w' ⟨rfl, ⟨nd, rfl⟩⟩; (try first | exact ⟨rfl, _, dN_⟩ | exact ⟨rfl, _, dT_⟩); obtain ⟨hcz31_0, hcz31_1, hcz31_2, hcz31_3, hcz31_4, hcz31_5⟩ := cl6_ BK103.out; obtain ⟨hfz31_0, hfz31_1, hfz31_2, hfz31_3, hfz31_4, hfz31_5⟩ := fz6_ BK103.out))
        repeat (go_quiet (first | (go_at_call 118; (with_reducible refine (isa_Bits.calls kj23 a1 t108 _ A29.out).mono ?_); rintro e w' ⟨rfl, ⟨nd, rfl⟩⟩; (try first | exact ⟨rfl, _, dN_⟩ | exact ⟨rfl, _, dT_⟩); obtain ⟨hcz31_0, hcz31_1, hcz31_2, hcz31_3, hcz31_4, hcz31_5⟩ := cl6_ BK103.out; obtain ⟨hfz31_0, hfz31_1, hfz31_2, hfz31_3, hfz31_4, hfz31_5⟩ := fz6_ BK103.out)); try go_wp2_with (first | (go_at_call 118; (with_reducible refine (isa_Bits.calls kj23 a1 t108 _ A29.out).mono ?_); rintro e w' ⟨rfl, ⟨nd, rfl⟩⟩; (try first | exact ⟨rfl, _, dN_⟩ | exact ⟨rfl, _, dT_⟩); obtain ⟨hcz31_0, hcz31_1, hcz31_2, hcz31_3, hcz31_4, hcz31_5⟩ := cl6_ BK103.out; obtain ⟨hfz31_0, hfz31_1, hfz31_2, hfz31_3, hfz31_4, hfz31_5⟩ := fz6_ BK103.out)))
        go_ret; exact ⟨eR_, bs_ HB GE103⟩
       rw [if_neg c30] at H; have c30b0 := bE_ c30; have c30b1 := bG_ c30; obtain ⟨t109, A32, H⟩ := oB_ H; obtain rfl : t108 = t109 := Option.some.inj (A29.out.symm.trans A32.out); obtain ⟨t110, A33, H⟩ := oB_ H; obtain rfl := oI_ H
       go_wp2_with (first | (go_at_call 118; (with_reducible refine (isa_Bits.calls kj23 a1 t108 _ A29.out).mono ?_); rintro e w' ⟨rfl, ⟨nd, rfl⟩⟩; (try first | exact ⟨rfl, _, dN_⟩ | exact ⟨rfl, _, dT_⟩); obtain ⟨hcz34_0, hcz34_1, hcz34_2, hcz34_3, hcz34_4, hcz34_5⟩ := cl6_ BK103.out; obtain ⟨hfz34_0, hfz34_1, hfz34_2, hfz34_3, hfz34_4, hfz34_5⟩ := fz6_ BK103.out) | (go_at_call 118; (with_reducible refine (isa_Bits.calls kj23 a1 t108 _ A32.out).mono ?_); rintro e w' ⟨rfl, ⟨nd, rfl⟩⟩; (try first | exact ⟨rfl, _, dN_⟩ | exact ⟨rfl, _, dT_⟩)) | (go_at_call 119; (with_reducible refine (word_Within.calls a0_4 t108 t110 _ A33.out).mono ?_); rintro e w' ⟨rfl, ⟨nd, rfl⟩⟩; (try first | exact ⟨rfl, _, dN_⟩ | exact ⟨rfl, _, dT_⟩)))
       repeat (go_quiet (first | (go_at_call 118; (with_reducible refine (isa_Bits.calls kj23 a1 t108 _ A29.out).mono ?_); rintro e w' ⟨rfl, ⟨nd, rfl⟩⟩; (try first | exact ⟨rfl, _, dN_⟩ | exact ⟨rfl, _, dT_⟩); obtain ⟨hcz34_0, hcz34_1, hcz34_2, hcz34_3, hcz34_4, hcz34_5⟩ := cl6_ BK103.out; obtain ⟨hfz34_0, hfz34_1, hfz34_2, hfz34_3, hfz34_4, hfz34_5⟩ := fz6_ BK103.out) | (go_at_call 118; (with_reducible refine (isa_Bits.calls kj23 a1 t108 _ A32.out).mono ?_); rintro e w' ⟨rfl, ⟨nd, rfl⟩⟩; (try first | exact ⟨rfl, _, dN_⟩ | exact ⟨rfl, _, dT_⟩)) | (go_at_call 119; (with_reducible refine (word_Within.calls a0_4 t108 t110 _ A33.out).mono ?_); rintro e w' ⟨rfl, ⟨nd, rfl⟩⟩; (try first | exact ⟨rfl, _, dN_⟩ | exact ⟨rfl, _, dT_⟩))); try go_wp2_with (first | (go_at_call 118; (with_reducible refine (isa_Bits.calls kj23 a1 t108 _ A29.out).mono ?_); rintro e w' ⟨rfl, ⟨nd, rfl⟩⟩; (try first | exact ⟨rfl, _, dN_⟩ | exact ⟨rfl, _, dT_⟩); obtain ⟨hcz34_0, hcz34_1, hcz34_2, hcz34_3, hcz34_4, hcz34_5⟩ := cl6_ BK103.out; obtain ⟨hfz34_0, hfz34_1, hfz34_2, hfz34_3, hfz34_4, hfz34_5⟩ := fz6_ BK103.out) | (go_at_call 118; (with_reducible refine (isa_Bits.calls kj23 a1 t108 _ A32.out).mono ?_); rintro e w' ⟨rfl, ⟨nd, rfl⟩⟩; (try first | exact ⟨rfl, _, dN_⟩ | exact ⟨rfl, _, dT_⟩)) | (go_at_call 119; (with_reducible refine (word_Within.calls a0_4 t108 t110 _ A33.out).mono ?_); rintro e w' ⟨rfl, ⟨nd, rfl⟩⟩; (try first | exact ⟨rfl, _, dN_⟩ | exact ⟨rfl, _, dT_⟩))))
       go_ret; exact ⟨eR_, bs_ HB GE103⟩
end Go.Proofs.Ytibfkkjkahpobaa.PDag
